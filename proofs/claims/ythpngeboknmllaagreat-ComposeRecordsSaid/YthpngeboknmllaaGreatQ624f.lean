/- T -/
import Derived.Test.YthpngeboknmllaaGreatQf32a
import Derived.Test.YthpngeboknmllaaGreatQ2824
import Derived.Test.YthpngeboknmllaaGreatQ81ab
set_option linter.unusedVariables false
set_option linter.unusedSimpArgs false
set_option maxHeartbeats 8000000
set_option maxRecDepth 100000
namespace Go.Proofs.YthpngeboknmllaaGreat
open Go.RowKit
def Yk (t:Z9) (p:List Int) (x y:Int):List Z9×Int:=if (ZM t p).2≠0 then ([],(ZM t p).2) else if x<0\/y<x\/(ZM t p).1.kids.length<y then ([],2) else (((ZM t p).1.kids.take y.toNat).drop x.toNat,0)
def RowV (w:World) (x:Z9) (er:Int) (e:Ending) (w':World):Prop :=
 ∃v,e=.returned (.tuple #[.agg #[.int .i64 x.kind,.string x.text,.int .i64 x.cols,v],.int .i64 er])/\Z8 Z6 w' (Lt w'.heap.size) x.kids v/\Below w.heap.size w w'
theorem zHt (t:Z9) (p:List Int) {m:Nat} {w:World} {S:Nat->Prop} {v:Value} (hv:Z8 Z6 w S t.kids v) (aa:Zk t) (h:ZR t<=m):ZQ (ZM t p).1.kids<=m:=by
 have hz:ZQ ZN.kids<=m:=Qj _;unfold ZM;split
 ·exact hz
 split
 ·exact hz
 rename_i h1 h2;have hr:=Re t p;rw[if_pos (by simpa using h2)] at hr;have:=(zJ7 t p _ hr aa ⟨v,hv⟩).2;rw[Xw] at this;show ZQ (ZP t p).1.kids<=m;omega
theorem zE0 (ts:List Z9) (k:Nat):ZQ (ts.drop k)<=ZQ ts:=by
 have h:=SC (ts.take k) (ts.drop k);rw[List.take_append_drop] at h;omega
end Go.Proofs.YthpngeboknmllaaGreat
namespace Go.Proofs.YthpngeboknmllaaGreat
open Go Go.RowKit Go.Shelf
attribute [local go_sem] Oper.semAt_some
def TI (L:List (List Int)) (i:Int):List Int×Int:=if 0<=i then (match L[i.toNat]? with|some q=>(q,0)|none=>([],2)) else ([],2)
end Go.Proofs.YthpngeboknmllaaGreat
namespace Go.Proofs.YthpngeboknmllaaGreat
theorem zNq {L:List (List Int)} (h:L.Pairwise WN) {i:Nat} (hi:i<L.length):(∀a∈L.take i,WN a L[i])/\(∀b∈L.drop (i+1),WN L[i] b):=by
 have e:L.take i++L[i]::L.drop (i+1)=L:=by rw[<-List.drop_eq_getElem_cons hi,List.take_append_drop]
 rw[<-e,List.pairwise_append,List.pairwise_cons] at h;exact⟨fun a ha=>h.2.2 a ha _ (List.mem_cons_self),h.2.1.1⟩
theorem Rj {a b:List Int} (h:WN a b):a≠b:=fun e=>by subst e;unfold WN at h;rw[zGf] at h;omega
theorem TD {L:List (List Int)} (h:L.Pairwise WN) {i:Nat} (hi:i<L.length) {p:List Int} (hp:L[i]=p):L.takeWhile (fun q=>decide (q≠p))=L.take i:=by
 subst hp;obtain⟨h1,_⟩:=zNq h hi;have e:L.takeWhile (fun q=>decide (q≠L[i]))=(L.take i++L[i]::L.drop (i+1)).takeWhile (fun q=>decide (q≠L[i])):=by rw[<-List.drop_eq_getElem_cons hi,List.take_append_drop]
 rw[e,List.takeWhile_append_of_pos (fun a ha=>by simpa using Rj (h1 a ha)),List.takeWhile_cons_of_neg (by simp),List.append_nil]
theorem Te {L:List (List Int)} (h:L.Pairwise WN) {i:Nat} (hi:i<L.length) {p:List Int} (hp:L[i]=p):Rm L p=L[i+1]?:=by
 subst hp;obtain⟨h1,h2⟩:=zNq h hi;have e:Rm L L[i]=(L.take i++L[i]::L.drop (i+1)).find? (fun q=>decide (0<ZX q L[i])):=by rw[<-List.drop_eq_getElem_cons hi,List.take_append_drop];rfl
 rw[e,List.find?_append,List.find?_eq_none.2 (fun a ha=>by have:=h1 a ha;unfold WN at this;simp;omega),List.find?_cons_of_neg (by simp[zGf])];simp only[Option.none_or];rw[<-List.head?_drop];cases hd:L.drop (i+1) with
 |nil=>rfl
 |
  cons b r =>
  have:=h2 b (by rw[hd];exact List.mem_cons_self);unfold WN at this;rw[zL8 b L[i]] at this;rw[List.find?_cons_of_pos (by simp;omega)];rfl
theorem zQd {L:List (List Int)} {p:List Int} {i:Nat} (h:YT L p=some i):∃hi:i<L.length,L[i]=p:=by
 unfold YT at h;obtain⟨hi,h1⟩:=List.findIdx?_eq_some_iff_getElem.1 h;exact⟨hi,by have:=h1.1;simpa[zE8] using this⟩
def idxR (b:Bool) (o:Option Nat):Int×Int:=if b then (match o with|some i=>((i:Int),0)|none=>(0,2)) else (0,1)
def RF (L:List (List Int)) (o:Option Nat) (d:Int):List Int×Int:=match o with|some i=>(if (TI L ((i:Int)+d)).2=0 then ((TI L ((i:Int)+d)).1,0) else ([],8))|none=>([],2)
def Wv (t:Z9) (p:List Int) (d:Int):List Int×Int:=if ZU t then RF (ZJ [] t) (YT (ZJ [] t) p) d else ([],1)
theorem zNk (L:List (List Int)) (k:Nat) {i:Int} (h:i=(k:Int)):TI L i=(match L[k]? with|some q=>(q,0)|none=>([],2)):=by
 subst h;rw[TI,if_pos (by omega),Int.toNat_natCast];all_goals (cases L[k]?<;>rfl)
theorem zLt (t:Z9) (p:List Int):(ZO t p=true/\∃i,YT (ZJ [] t) p=some i/\∃hi:i<(ZJ [] t).length,(ZJ [] t)[i]=p)\/(ZO t p=false/\YT (ZJ [] t) p=none):=by
 have h:=zIa t p;cases hp:ZO t p
 ·rw[hp] at h;exact .inr ⟨rfl,by cases hq:YT (ZJ [] t) p with|none=>rfl|some i=>rw[hq] at h;cases h⟩
 rw[hp] at h;cases hq:YT (ZJ [] t) p with
 |none=>rw[hq] at h;cases h
 |some i=>exact .inl ⟨rfl,i,rfl,zQd hq⟩
theorem Tf (t:Z9) (p:List Int):Rl t p=Wv t p 1:=by
 unfold Rl Wv YQ;cases hv:ZU t
 ·simp
 rcases zLt t p with ⟨hp,i,hi,hl,he⟩|⟨hp,hi⟩
 ·rw[hp,hi];simp only[if_true,RF];rw[Te (zFv [] t) hl he,zNk (ZJ [] t) (i+1) (by omega)];cases (ZJ [] t)[i+1]?<;>simp
 rw[hp,hi];simp[RF]
theorem Tt (t:Z9) (p:List Int):Rw t p=Wv t p (-1):=by
 unfold Rw Wv YQ;cases hv:ZU t
 ·simp
 rcases zLt t p with ⟨hp,i,hi,hl,he⟩|⟨hp,hi⟩
 ·rw[hp,hi];simp only[if_true,RF];rw[VQ,TD (zFv [] t) hl he];rcases i with _|i
  ·simp[WZ,TI]
  rw[zNk (ZJ [] t) i (by omega),List.getLast?_eq_getElem?];have:((ZJ [] t).take (i+1)).length=i+1:=by simp;omega
  rw[this,Nat.add_sub_cancel,List.getElem?_take_of_lt (by omega)];cases (ZJ [] t)[i]?<;>simp[WZ]
 rw[hp,hi];simp[RF]
end Go.Proofs.YthpngeboknmllaaGreat
namespace Go.Proofs.YthpngeboknmllaaGreat
open Go.RowKit
abbrev Zc (l:List Z9) (i:Nat):Z9:=l.getD i ZN
theorem zRp (xs ys:List Z9) (i:Nat):Zc (xs++ys) i=if i<xs.length then Zc xs i else Zc ys (i-xs.length):=by
 unfold Zc;simp only[List.getD_eq_getElem?_getD];split
 ·rename_i h;rw[List.getElem?_append_left h]
 rename_i h;rw[List.getElem?_append_right (by omega)]
theorem zS0 (xs:List Z9) (a i:Nat) (h:i<a):Zc (xs.take a) i=Zc xs i:=by
 unfold Zc;simp only[List.getD_eq_getElem?_getD];rw[List.getElem?_take,if_pos h]
theorem zS1 (xs:List Z9) (a i:Nat):Zc (xs.drop a) i=Zc xs (a+i):=by
 unfold Zc;simp only[List.getD_eq_getElem?_getD];rw[List.getElem?_drop]
theorem YM {l bs:List Z9} {a b:Nat} (ha:a<=l.length):(Zn l a b bs).length=a+bs.length+(l.length-b):=by
 unfold Zn;simp;omega
theorem zR1 {l bs:List Z9} {a b i:Nat} (ha:a<=l.length) (h:i<a):Zc (Zn l a b bs) i=Zc l i:=by
 unfold Zn;rw[zRp,if_pos (by simp;omega),zRp,if_pos (by simp;omega),zS0 _ _ _ h]
theorem QL {l bs:List Z9} {a b i:Nat} (ha:a<=l.length) (h:i<bs.length):Zc (Zn l a b bs) (a+i)=Zc bs i:=by
 unfold Zn;rw[zRp,if_pos (by simp;omega),zRp,if_neg (by simp;omega)];congr 1;simp;omega
theorem zR2 {l bs:List Z9} {a b i:Nat} (ha:a<=l.length) (h:b<=i):Zc (Zn l a b bs) (a+bs.length+(i-b))=Zc l i:=by
 unfold Zn;rw[zRp,if_neg (by simp;omega),zS1];congr 1;simp;omega
theorem XJ (l:List Z9) (x:Int):ZO (Z7 l) [x]=true↔0<=x/\x<=l.length:=by
 rw[Tp,decide_eq_true_eq];rfl
theorem VY (l:List Z9) (i:Nat) (s:Int) (q:List Int):ZO (Z7 l) ((i:Int)::s::q)=true↔i<l.length/\(0<=s/\s.toNat<(Zc l i).kids.length)/\ZO (ZZ (Zc l i) s) q=true:=by
 rw[VW];have h1:(Z7 l).kids=l:=rfl;have h2:ZZ (Z7 l) (i:Int)=Zc l i:=by unfold ZZ;rw[Int.toNat_natCast];rfl
 rw[h1,h2];simp[and_assoc]
theorem zR4 {l:List Z9} {i s:Int} {q:List Int} (h:ZO (Z7 l) (i::s::q)=true):∃i':Nat,i=i':=by
 rw[VW] at h;simp only[Bool.and_eq_true,decide_eq_true_eq] at h;exact⟨i.toNat,by omega⟩
structure WS (l l':List Z9) (op:ZL) (a:Nat):Prop where
 at_:op.at_=a
 n:op.kind=3\/op.kind=4->0<=op.n
 K:op.kind=1\/op.kind=2->0<op.nodes.length
 kind:1<=op.kind/\op.kind<=5
 ins:op.kind=1->a<=l.length/\l'=Zn l a a op.nodes
 del:op.kind=2->a+op.nodes.length<=l.length/\l'=Zn l a (a+op.nodes.length) []
 wrap:op.kind=3->a+op.n.toNat<=l.length/\∃t,l'=Zn l a (a+op.n.toNat) [t]/\(0<=op.slot/\op.slot.toNat<t.kids.length)/\ZZ t op.slot=Z7 ((l.take (a+op.n.toNat)).drop a)
 unw:op.kind=4->a<l.length/\l'=Zn l a (a+1) (ZZ (Zc l a) op.slot).kids/\((ZZ (Zc l a) op.slot).kids.length:Int)=op.n/\0<=op.slot/\op.slot.toNat<(Zc l a).kids.length
 set:op.kind=5->a<l.length/\∃t,l'=Zn l a (a+1) [t]/\t.kids=(Zc l a).kids
theorem SK {l:List Z9} {op:ZL} (hf:Zb op=true) (h:(ZH l op).2=0):∃a,WS l (ZH l op).1 op a:=by
 unfold ZH at h ⊢;split at h
 ·simp at h
 rename_i hr;rw[if_neg hr];obtain⟨a,ha⟩:∃a:Nat,op.at_=a:=⟨op.at_.toNat,by omega⟩;refine⟨a,?_⟩;have ak:a<=l.length:=by omega
 unfold Zb at hf;by_cases h1:op.kind=1
 ·rw[if_pos (Or.inl h1)] at hf;simp only[Bool.and_eq_true,decide_eq_true_eq] at hf;rw[if_pos h1];have e:op.at_.toNat=a:=by omega
  refine⟨ha,fun h=>by omega,fun _=>hf.1,by omega,fun _=>⟨ak,by rw[e]⟩,fun h=>by omega,fun h=>by omega,fun h=>by omega,fun h=>by omega⟩
 rw[if_neg h1] at h ⊢;by_cases h2:op.kind=2
 ·rw[if_pos (Or.inr h2)] at hf;simp only[Bool.and_eq_true,decide_eq_true_eq] at hf;rw[if_pos h2] at h ⊢;split at h
  ·rename_i hs;rw[if_pos hs];have ag:Y7 op=op.nodes.length:=by unfold Y7;rw[if_neg h1,if_pos h2]
   have e:op.at_.toNat=a:=by omega
   have e2:(op.at_+(op.nodes.length:Int)).toNat=a+op.nodes.length:=by omega
   refine⟨ha,fun h=>by omega,fun _=>hf.1,by omega,fun h=>by omega,fun _=>⟨by omega,by rw[e,e2]⟩,fun h=>by omega,fun h=>by omega,fun h=>by omega⟩
  simp at h
 rw[if_neg h2] at h ⊢;rw[if_neg (by omega)] at hf;by_cases h3:op.kind=3
 ·rw[if_pos (Or.inl h3)] at hf;simp only[Bool.and_eq_true,decide_eq_true_eq] at hf;obtain⟨hn,aa,_⟩:=hf;obtain⟨t0,ae,af,ah,aj⟩:=R9 aa;rw[if_pos h3];have ag:Y7 op=op.n:=by unfold Y7;rw[if_neg h1,if_neg h2,if_pos h3]
  have e:op.at_.toNat=a:=by omega
  have e2:(op.at_+op.n).toNat=a+op.n.toNat:=by omega
  refine⟨ha,fun _=>hn,fun h=>by omega,by omega,fun h=>by omega,fun h=>by omega,fun _=>⟨by omega,_,by rw[e,e2],?_,?_⟩,fun h=>by omega,fun h=>by omega⟩
  ·rw[ae,List.headD_cons];exact⟨af,by show _<(Y3 t0 _ _).kids.length;rw[TW];omega⟩
  rw[ae,List.headD_cons];show ZZ (Y3 t0 op.slot.toNat _) op.slot=_;rw[VX (by omega)]
 rw[if_neg h3] at h ⊢;by_cases h4:op.kind=4
 ·rw[if_pos (Or.inr h4)] at hf;simp only[Bool.and_eq_true,decide_eq_true_eq] at hf;obtain⟨hn,aa,_⟩:=hf;obtain⟨t0,ae,af,ah,aj⟩:=R9 aa;rw[if_pos h4] at h ⊢;have ag:Y7 op=1:=by unfold Y7;rw[if_neg h1,if_neg h2,if_neg h3]
  split at h
  ·simp at h
  rename_i hc;rw[if_neg hc];have e:op.at_.toNat=a:=by omega
  have e2:(op.at_+1).toNat=a+1:=by omega
  rw[e] at hc;rw[e,e2];have c1:¬((l.getD a ZN).kids.length:Int)<=op.slot:=fun h=>hc (Or.inl h)
  have c2:((ZZ (l.getD a ZN) op.slot).kids.length:Int)=op.n:=Decidable.byContradiction fun h=>hc (Or.inr (Or.inl h))
  exact⟨ha,fun _=>hn,fun h=>by omega,by omega,fun h=>by omega,fun h=>by omega,fun h=>by omega,fun _=>⟨by omega,rfl,c2,af,by show op.slot.toNat<(l.getD a ZN).kids.length;omega⟩,fun h=>by omega⟩
 rw[if_neg (by omega)] at hf;split at hf
 ·rename_i h5;rw[if_neg h4] at h ⊢;have ag:Y7 op=1:=by unfold Y7;rw[if_neg h1,if_neg h2,if_neg h3]
  split at h
  ·rename_i hc;rw[if_pos hc];have e:op.at_.toNat=a:=by omega
   have e2:(op.at_+1).toNat=a+1:=by omega
   exact⟨ha,fun h=>by omega,fun h=>by omega,by omega,fun h=>by omega,fun h=>by omega,fun h=>by omega,fun h=>by omega,fun _=>⟨by omega,.mk (l.getD a ZN).kind op.text (l.getD a ZN).cols (l.getD a ZN).kids,by rw[e,e2],rfl⟩⟩
  simp at h
 cases hf
structure Ze where
 ops:List ZL
 bp:List Int
 bm:List Int
 ap:List Int
 am:List Int
def ZB:Ze:=⟨[],[],[],[],[]⟩
def Zz:ByteArray:=⟨#[]⟩
def Zf (row:List Int) (a:Int) (l:List Z9):ZL:=⟨2,row,a,0,l,0,Zz,Zz⟩
def Yw (row:List Int) (a:Int) (l:List Z9):ZL:=⟨1,row,a,0,l,0,Zz,Zz⟩
def Yj (row:List Int) (a n:Int) (l:List Z9) (slot:Int):ZL:=⟨3,row,a,n,l,slot,Zz,Zz⟩
def Wl (row:List Int) (a:Int) (old text:ByteArray):ZL:=⟨5,row,a,0,[],0,old,text⟩
def WJ (t:Z9) (p m:List Int) (ops:List ZL) (pos:List Int):Ze×Int:=if (YB t ops).2=0 then (⟨ops,p,m,pos,[]⟩,0) else (ZB,6)
def WW (t:Z9) (r:List Int×Int×Int):List ZL:=if (Yk t r.1 r.2.1 r.2.2).1.length=0 then [] else [Zf r.1 r.2.1 (Yk t r.1 r.2.1 r.2.2).1]
def TK (t:Z9) (p m:List Int) (items:List Z9):Ze×Int :=
 if (ZU t&&ZU (Z7 items))=false then (ZB,1)
 else if (ZK t p m).2≠0 then (ZB,(ZK t p m).2)
 else WJ t p m (WW t (ZK t p m).1++if items.length=0 then [] else [Yw (ZK t p m).1.1 (ZK t p m).1.2.1 items]) ((ZK t p m).1.1++[(ZK t p m).1.2.1+items.length])
def YR (t:Z9) (p:List Int) (i:Int):Z9×Int :=
 if (ZM t p).2≠0 then (ZN,(ZM t p).2) else if i<0\/((ZM t p).1.kids.length:Int)<=i then (ZN,2) else (Zc (ZM t p).1.kids i.toNat,0)
structure AroD where
 row:List Int
 at_:Int
 own:Int
 item:Z9
def Y5 (t:Z9) (p:List Int):Option AroD :=
 if p.length<3 then none else some ⟨p.take (p.length-3),p.getD (p.length-3) 0,p.getD (p.length-2) 0,(YR t (p.take (p.length-3)) (p.getD (p.length-3) 0)).1⟩
def Yc:List Z9->Int->Int->Bool
 |[],_,_=>false
 |k::ks,i,but=>(decide (i≠but)&&decide (0<k.kids.length)) || Yc ks (i+1) but
def YL (x:AroD):ZL:=⟨4,x.row,x.at_,(ZZ x.item x.own).kids.length,[Zj x.item x.own.toNat []],x.own,Zz,Zz⟩
def Xa (t:Z9) (p m:List Int) (back:Bool):Ze×Int :=
 if (Wv t p (if back then -1 else 1)).2≠0 then (ZB,(Wv t p (if back then -1 else 1)).2) else WJ t p m [] (Wv t p (if back then -1 else 1)).1
def WB (t:Z9) (p m:List Int) (back:Bool):Ze×Int :=
 if (ZK t p m).2≠0 then (ZB,(ZK t p m).2)
 else if (ZK t p m).1.2.1<(ZK t p m).1.2.2 then WJ t p m (WW t (ZK t p m).1) ((ZK t p m).1.1++[(ZK t p m).1.2.1])
 else
  let row:=(ZM t p.dropLast).1.kids
  let i:=if back then p.getLastD 0-1 else p.getLastD 0
  if 0<=i/\i<row.length then
   (if Yc (Zc row i.toNat).kids 0 (-1)=false then WJ t p m [Zf p.dropLast i [Zc row i.toNat]] (p.dropLast++[i]) else Xa t p m back)
  else match Y5 t p with
   |some x=>if Yc x.item.kids 0 x.own=false then WJ t p m [YL x] (x.row++[if back then x.at_ else x.at_+(YL x).n]) else Xa t p m back
   |none=>Xa t p m back
def WA:List Z9->Int->Int->Bool->Option Int
 |[],_,_,_=>none
 |k::ks,i,slot,z=>if k.kids.length=0/\(i≠slot\/z=true) then some i else WA ks (i+1) slot z
def TN (t:Z9) (p m:List Int) (item:Z9) (slot:Int):Ze×Int :=
 if (ZU t&&Zb (Yj [] 0 0 [item] slot))=false then (ZB,1)
 else if (ZK t p m).2≠0 then (ZB,(ZK t p m).2)
 else
  let r:=(ZK t p m).1
  WJ t p m [Yj r.1 r.2.1 (r.2.2-r.2.1) [item] slot] (match WA item.kids 0 slot (decide (r.2.2-r.2.1=0)) with|some s=>r.1++[r.2.1,s,0]|none=>r.1++[r.2.1+1])
def TL (t:Z9) (p m:List Int):Ze×Int :=
 if (ZK t p m).2≠0 then (ZB,(ZK t p m).2)
 else match Y5 t p with
  |none=>(ZB,8)
  |some x=>WJ t p m [YL x] (TV (YL x) p false)
def VZ (t:Z9) (p m:List Int):Ze×Int :=
 if (ZK t p m).2≠0 then (ZB,(ZK t p m).2)
 else match Y5 t p with
  |none=>(ZB,8)
  |
   some x =>
   if (ZK t p m).1.2.1<(ZK t p m).1.2.2\/(x.item.kind≠11/\x.item.kind≠10) then (ZB,7)
   else
    let rest:List Int×Int×Int:=(x.row++[x.at_,x.own],p.getLastD 0,((ZZ x.item x.own).kids.length:Int))
    WJ t p m (WW t rest++[Yw x.row (x.at_+1) [Zj x.item x.own.toNat (Yk t rest.1 rest.2.1 rest.2.2).1]]) (x.row++[x.at_+1,x.own,0])
def X7 (t:Z9) (p m:List Int) (text:ByteArray):Ze×Int :=
 if (ZK t p m).2≠0 then (ZB,(ZK t p m).2)
 else if p.getLastD 0=0 then (ZB,8)
 else
  let op:=Wl p.dropLast (p.getLastD 0-1) (YR t p.dropLast (p.getLastD 0-1)).1.text text
  if (Zw t op).2=4\/(Zw t op).2=7 then (ZB,7)
  else if (YB t [op]).2=0 then (⟨[op],p,m,p,m⟩,0) else (ZB,6)
def RX (cols own:Int) (columns:Bool):List Z9->Int->List Z9
 |[],_=>[]
 |k::ks,i=>k::((if columns=true/\i.tmod cols=own.tmod cols then [Z7 []] else [])++((if columns=false/\i=own.tdiv cols*cols+cols-1 then List.replicate cols.toNat (Z7 []) else [])++RX cols own columns ks (i+1)))
def VM (t:Z9) (p m:List Int) (columns:Bool):Ze×Int :=
 if (ZK t p m).2≠0 then (ZB,(ZK t p m).2)
 else match Y5 t p with
  |none=>(ZB,8)
  |
   some x =>
   if x.item.kind≠12 then (ZB,7)
   else
    let m2:Z9:=.mk 12 Zz (if columns then x.item.cols+1 else x.item.cols) (RX x.item.cols x.own columns x.item.kids 0)
    let own2:Int:=(RX x.item.cols x.own columns (x.item.kids.take x.own.toNat) 0).length
    WJ t p m [Zf x.row x.at_ [x.item],Yw x.row x.at_ [m2]] (x.row++[x.at_,own2,p.getLastD 0])
theorem SX {l l':List Z9} {op:ZL} {a:Nat} (hd:WS l l' op a) (o:Int) (after:Bool) (h:ZO (Z7 l) [o]=true):ZO (Z7 l') (Wu op o after)=true:=by
 obtain⟨h0,h1⟩:=(XJ l o).1 h;obtain⟨aj,hn,hK,⟨hk1,hk5⟩,H1,H2,H3,H4,H5⟩:=hd;unfold Wu;rw[aj];split
 ·rename_i hc;obtain⟨h2,rfl⟩:=H1 hc.1;clear H1 H2 H3 H4 H5;rw[XJ,YM h2];omega
 rename_i c1;split
 ·rename_i hc;obtain⟨h2,rfl⟩:=H2 hc.1;clear H1 H2 H3 H4 H5;split<;>rw[XJ,YM (by omega),List.length_nil]<;>omega
 rename_i c2;split
 ·rename_i hc;have aa:=hn (Or.inl hc.1);obtain⟨h2,t,rfl,⟨ah,ag⟩,af⟩:=H3 hc.1;clear H1 H2 H3 H4 H5;split
  ·rename_i hlt;have hi:Zc (Zn l a (a+op.n.toNat) [t]) a=t:=by
    have:=QL (l:=l) (bs:=[t]) (a:=a) (b:=a+op.n.toNat) (i:=0) (by omega) (by simp);rw[Nat.add_zero] at this;rw[this];rfl
   rw[VY,hi,af,XJ,YM (by omega)];refine⟨by simp;omega,⟨ah,ag⟩,by omega,?_⟩;simp;omega
  rw[XJ,YM (by omega)];simp;omega
 rename_i c3;split
 ·rename_i hc;obtain⟨h2,t,rfl,_,_⟩:=H3 hc.1;clear H1 H2 H3 H4 H5;have aa:=hn (Or.inl hc.1);rw[XJ,YM (by omega)];simp;omega
 rename_i c4;split
 ·rename_i hc;have aa:=hn (Or.inr hc.1);obtain⟨h2,rfl,ae,_,_⟩:=H4 hc.1;clear H1 H2 H3 H4 H5;rw[XJ,YM (by omega)];omega
 rename_i c5;rw[XJ];refine⟨h0,?_⟩;have hk:op.kind=1\/op.kind=2\/op.kind=3\/op.kind=4\/op.kind=5:=by omega
 rcases hk with hk|hk|hk|hk|hk
 ·obtain⟨h2,rfl⟩:=H1 hk;clear H1 H2 H3 H4 H5;rw[YM h2];omega
 ·obtain⟨h2,rfl⟩:=H2 hk;clear H1 H2 H3 H4 H5;rw[YM (by omega),List.length_nil];have:o<=a:=by
   rcases Int.lt_or_le (a:Int) o with h3|h3
   ·exact absurd ⟨hk,h3⟩ c2
   exact h3
  omega
 ·obtain⟨h2,t,rfl,_,_⟩:=H3 hk;clear H1 H2 H3 H4 H5;have aa:=hn (Or.inl hk);rw[YM (by omega)];have:o<=a:=by
   rcases Int.lt_or_le (a:Int) o with h3|h3
   ·exact absurd ⟨hk,h3⟩ c3
   exact h3
  simp;omega
 ·obtain⟨h2,rfl,ae,_,_⟩:=H4 hk;clear H1 H2 H3 H4 H5;rw[YM (by omega)];have:o<=a:=by
   rcases Int.lt_or_le (a:Int) o with h3|h3
   ·exact absurd ⟨hk,h3⟩ c5
   exact h3
  omega
 obtain⟨h2,t,rfl,_⟩:=H5 hk;clear H1 H2 H3 H4 H5;rw[YM (by omega)];simp;omega
theorem SG {l l':List Z9} {op:ZL} {a:Nat} (hd:WS l l' op a) (i s y:Int) (r:List Int) (h:ZO (Z7 l) (i::s::y::r)=true):ZO (Z7 l') (Wp op i s (y::r))=true:=by
 obtain⟨i',rfl⟩:=zR4 h;obtain⟨hil,⟨ah,ag⟩,hq⟩:=(VY l i' s (y::r)).1 h;obtain⟨aF,hn,hK,⟨hk1,hk5⟩,H1,H2,H3,H4,H5⟩:=hd
 -- an item that is at j' in l'
 have go:∀j':Nat,j'<l'.length->Zc l' j'=Zc l i'->ZO (Z7 l') ((j':Int)::s::y::r)=true:=fun j' h1 h2=>by
  rw[VY,h2];exact⟨h1,⟨ah,ag⟩,hq⟩
 unfold Wp;rw[aF];simp only[List.cons_append,List.nil_append];split
 ·rename_i aC;have aa:i'<a:=by omega
  have hk:op.kind=1\/op.kind=2\/op.kind=3\/op.kind=4\/op.kind=5:=by omega
  rcases hk with hk|hk|hk|hk|hk
  ·obtain⟨h2,rfl⟩:=H1 hk;clear H1 H2 H3 H4 H5;exact go i' (by rw[YM h2];omega) (zR1 h2 aa)
  ·obtain⟨h2,rfl⟩:=H2 hk;clear H1 H2 H3 H4 H5;exact go i' (by rw[YM (by omega)];omega) (zR1 (by omega) aa)
  ·obtain⟨h2,t,rfl,_,_⟩:=H3 hk;clear H1 H2 H3 H4 H5;exact go i' (by rw[YM (by omega)];omega) (zR1 (by omega) aa)
  ·obtain⟨h2,rfl,_,_,_⟩:=H4 hk;clear H1 H2 H3 H4 H5;exact go i' (by rw[YM (by omega)];omega) (zR1 (by omega) aa)
  obtain⟨h2,t,rfl,_⟩:=H5 hk;clear H1 H2 H3 H4 H5;exact go i' (by rw[YM (by omega)];omega) (zR1 (by omega) aa)
 rename_i hge;have aa:a<=i':=by omega
 split
 ·rename_i hk;obtain⟨h2,rfl⟩:=H1 hk;clear H1 H2 H3 H4 H5;have:=zR2 (l:=l) (bs:=op.nodes) (a:=a) (b:=a) (i:=i') h2 aa;have h3:=go (a+op.nodes.length+(i'-a)) (by rw[YM h2];omega) this;rw[show (((a+op.nodes.length+(i'-a):Nat)):Int)=(i':Int)+op.nodes.length by omega] at h3;exact h3
 rename_i c1;split
 ·rename_i hk;obtain⟨h2,rfl⟩:=H2 hk;clear H1 H2 H3 H4 H5;split
  ·rw[XJ,YM (by omega),List.length_nil];omega
  have:=zR2 (l:=l) (bs:=[]) (a:=a) (b:=a+op.nodes.length) (i:=i') (by omega) (by omega);have h3:=go (a+0+(i'-(a+op.nodes.length))) (by rw[YM (by omega),List.length_nil];omega) this;rw[show (((a+0+(i'-(a+op.nodes.length)):Nat)):Int)=(i':Int)-op.nodes.length by omega] at h3;exact h3
 rename_i c2;split
 ·rename_i hk;have ay:=hn (Or.inl hk);obtain⟨h2,t,rfl,⟨aA,az⟩,au⟩:=H3 hk;clear H1 H2 H3 H4 H5;split
  ·rename_i aC;have hi:Zc (Zn l a (a+op.n.toNat) [t]) a=t:=by
    have:=QL (l:=l) (bs:=[t]) (a:=a) (b:=a+op.n.toNat) (i:=0) (by omega) (by simp);rw[Nat.add_zero] at this;rw[this];rfl
   rw[VY,hi,au];refine⟨by rw[YM (by omega)];simp;omega,⟨aA,az⟩,?_⟩;obtain⟨d,hd⟩:∃d:Nat,(i':Int)-a=d:=⟨i'-a,by omega⟩;rw[hd,VY,zS1,zS0 _ _ _ (by omega),show a+d=i' by omega];exact⟨by simp;omega,⟨ah,ag⟩,hq⟩
  have:=zR2 (l:=l) (bs:=[t]) (a:=a) (b:=a+op.n.toNat) (i:=i') (by omega) (by omega);have h3:=go (a+1+(i'-(a+op.n.toNat))) (by rw[YM (by omega)];simp;omega) this;rw[show (((a+1+(i'-(a+op.n.toNat)):Nat)):Int)=(i':Int)-op.n+1 by omega] at h3;exact h3
 rename_i c3;split
 ·rename_i hk;have ay:=hn (Or.inr hk.1);obtain⟨h2,rfl,ak,af,ae⟩:=H4 hk.1;clear H1 H2 H3 H4 H5;have av:i'=a:=by omega
  subst av;split
  ·rw[XJ,YM (by omega)];omega
  split
  ·rw[XJ,YM (by omega)];omega
  have aB:s=op.slot:=by omega
  subst aB;simp only[List.headD_cons,List.tail_cons];have aj:ZO (Z7 (ZZ (Zc l i') op.slot).kids) (y::r)=true:=by
   rw[<-zSf (ZZ (Zc l i') op.slot) (Z7 (ZZ (Zc l i') op.slot).kids) rfl];exact hq
  cases r with
  |
   nil =>
   obtain⟨h3,h4⟩:=(XJ _ _).1 aj;rw[XJ,YM (by omega)];omega
  |
   cons z r =>
   obtain⟨y',rfl⟩:=zR4 aj;obtain⟨h3,h4,h5⟩:=(VY _ _ _ _).1 aj;have:=QL (l:=l) (bs:=(ZZ (Zc l i') op.slot).kids) (a:=i') (b:=i'+1) (i:=y') (by omega) h3;rw[show (i':Int)+(y':Int)=((i'+y':Nat):Int) by omega,VY,this];exact⟨by rw[YM (by omega)];omega,h4,h5⟩
 rename_i c4;split
 ·rename_i hk;have ay:=hn (Or.inr hk);obtain⟨h2,rfl,ak,af,ae⟩:=H4 hk;clear H1 H2 H3 H4 H5;have hne:i'≠a:=fun e=>c4 ⟨hk,by omega⟩
  have:=zR2 (l:=l) (bs:=(ZZ (Zc l a) op.slot).kids) (a:=a) (b:=a+1) (i:=i') (by omega) (by omega);have h3:=go (a+(ZZ (Zc l a) op.slot).kids.length+(i'-(a+1))) (by rw[YM (by omega)];omega) this;rw[show (((a+(ZZ (Zc l a) op.slot).kids.length+(i'-(a+1)):Nat)):Int)=(i':Int)-1+op.n by omega] at h3;exact h3
 rename_i hk;obtain⟨h2,t,rfl,ax⟩:=H5 (by omega);clear H1 H2 H3 H4 H5;rcases Nat.lt_or_ge a i' with h3|h3
 ·have:=zR2 (l:=l) (bs:=[t]) (a:=a) (b:=a+1) (i:=i') (by omega) (by omega);have h4:=go (a+1+(i'-(a+1))) (by rw[YM (by omega)];simp;omega) this;rw[show (((a+1+(i'-(a+1)):Nat)):Int)=(i':Int) by omega] at h4;exact h4
 obtain rfl:i'=a:=by omega
 have hi:Zc (Zn l i' (i'+1) [t]) i'=t:=QL (l:=l) (bs:=[t]) (a:=i') (b:=i'+1) (i:=0) (by omega) (by simp);have aD:ZZ t s=ZZ (Zc l i') s:=by unfold ZZ;rw[ax]
 rw[VY,hi,aD,ax];exact⟨by rw[YM (by omega)];simp;omega,⟨ah,ag⟩,hq⟩
theorem Xc (x y:Int) (xs ys:List Int):ZX (x::xs) (y::ys)<=0↔x<y\/(x=y/\ZX xs ys<=0):=by
 rw[ZX];split
 ·omega
 split
 ·omega
 omega
theorem Wo (ys:List Int):ZX [] ys<=0:=by cases ys<;>simp[ZX]
theorem Wy (x:Int) (xs:List Int):¬ZX (x::xs) []<=0:=by simp[ZX]
theorem Qy (k:Int):k=1\/k=2\/k=3\/k=4\/(k≠1/\k≠2/\k≠3/\k≠4):=by omega
structure zVt (op:ZL):Prop where
 n:op.kind=3\/op.kind=4->0<=op.n
def RY (op:ZL):List Int->Prop
 |i::s::y::r=>op.kind=4->i=op.at_->s=op.slot->0<=y/\y<=op.n/\(r≠[]->y<op.n)
 |_=>True
theorem Rt (op:ZL) (ho:zVt op) (x y:Int) (after:Bool) (h:ZX [x] [y]<=0):ZX (Wu op x after) (Wu op y after)<=0:=by
 obtain⟨kind,row,at_,n,nodes,slot,old,text⟩:=op;have hn:=ho.n;simp only at hn;rw[Xc] at h;have hxy:x<=y:=by omega
 clear h ho;unfold Wu;simp only;generalize nodes.length=K;rcases Qy kind with h1|h1|h1|h1|⟨h1,h2,h3,h4⟩
 case inr.inr.inr.inr =>
  simp only[h1,h2,h3,h4,false_and,true_and,if_false];cases after<;>(try simp only[and_true,and_false,or_false,Bool.false_eq_true])<;>(repeat' split)<;>simp only[Xc,Wo,Wy,and_true,and_false,or_false,or_true,true_or,true_and,false_and,false_or]<;>first|contradiction|omega
 all_goals
  subst h1;simp only[Int.reduceEq,false_and,true_and,if_false,if_true,true_implies,false_implies,or_false,or_true,false_or,true_or] at *;cases after<;>(try simp only[and_true,and_false,or_false,Bool.false_eq_true])<;>(repeat' split)<;>simp only[Xc,Wo,Wy,and_true,and_false,or_false,or_true,true_or,true_and,false_and,false_or]<;>first|contradiction|omega
theorem Rs (op:ZL) (ho:zVt op) (x i s y:Int) (r:List Int) (after:Bool) (hk:RY op (i::s::y::r)) (h:ZX [x] (i::s::y::r)<=0):ZX (Wu op x after) (Wp op i s (y::r))<=0:=by
 obtain⟨kind,row,at_,n,nodes,slot,old,text⟩:=op;have hn:=ho.n;simp only[RY] at hn hk;rw[Xc] at h;have hxy:x<=i:=by omega
 clear h ho;have hk':kind=4->i=at_->s=slot->0<=y/\y<=n:=fun a b c=>⟨(hk a b c).1,(hk a b c).2.1⟩
 clear hk;unfold Wu Wp;simp only[List.cons_append,List.nil_append,List.headD_cons,List.tail_cons];generalize nodes.length=K;rcases Qy kind with h1|h1|h1|h1|⟨h1,h2,h3,h4⟩
 case inr.inr.inr.inr =>
  simp only[h1,h2,h3,h4,false_and,true_and,if_false];cases after<;>(try simp only[and_true,and_false,or_false,Bool.false_eq_true])<;>(repeat' split)<;>simp only[Xc,Wo,Wy,and_true,and_false,or_false,or_true,true_or,true_and,false_and,false_or]<;>first|contradiction|omega
 all_goals
  subst h1;simp only[Int.reduceEq,false_and,true_and,if_false,if_true,true_implies,false_implies,or_false,or_true,false_or,true_or] at *;cases after<;>(try simp only[and_true,and_false,or_false,Bool.false_eq_true])<;>(repeat' split)<;>simp only[Xc,Wo,Wy,and_true,and_false,or_false,or_true,true_or,true_and,false_and,false_or]<;>first|contradiction|omega
theorem Rq (op:ZL) (ho:zVt op) (x i s y:Int) (r:List Int) (after:Bool) (hk:RY op (i::s::y::r)) (h:ZX (i::s::y::r) [x]<=0):ZX (Wp op i s (y::r)) (Wu op x after)<=0:=by
 obtain⟨kind,row,at_,n,nodes,slot,old,text⟩:=op;have hn:=ho.n;simp only[RY] at hn hk;rw[Xc] at h;simp only[Wy,and_false,or_false] at h;clear ho;have hk':kind=4->i=at_->s=slot->0<=y/\y<=n:=fun a b c=>⟨(hk a b c).1,(hk a b c).2.1⟩
 have hr:kind=4->i=at_->s=slot->r=[]\/y<n:=fun a b c=>by
  cases r with
  |nil=>exact .inl rfl
  |cons z r=>exact .inr ((hk a b c).2.2 (by simp))
 clear hk;unfold Wu Wp;simp only[List.cons_append,List.nil_append,List.headD_cons,List.tail_cons];generalize nodes.length=K;have aa:r=[]\/¬ZX r []<=0:=by
  cases r with
  |nil=>exact .inl rfl
  |cons z r=>exact .inr (Wy z r)
 rcases aa with rfl|aa
 ·skip
  rcases Qy kind with h1|h1|h1|h1|⟨h1,h2,h3,h4⟩
  case inr.inr.inr.inr =>
   simp only[h1,h2,h3,h4,false_and,true_and,if_false];cases after<;>(try simp only[and_true,and_false,or_false,Bool.false_eq_true])<;>(repeat' split)<;>simp only[Xc,Wo,Wy,and_true,and_false,or_false,or_true,true_or,true_and,false_and,false_or]<;>first|contradiction|omega
  all_goals
   subst h1;simp only[Int.reduceEq,false_and,true_and,if_false,if_true,true_implies,false_implies,or_false,or_true,false_or,true_or] at *;cases after<;>(try simp only[and_true,and_false,or_false,Bool.false_eq_true])<;>(repeat' split)<;>simp only[Xc,Wo,Wy,and_true,and_false,or_false,or_true,true_or,true_and,false_and,false_or]<;>first|contradiction|omega
 have hr':kind=4->i=at_->s=slot->y<n:=fun a b c=>by
  rcases hr a b c with e|e
  ·subst e;exact absurd (Wo []) aa
  exact e
 clear hr;rcases Qy kind with h1|h1|h1|h1|⟨h1,h2,h3,h4⟩
 case inr.inr.inr.inr =>
  simp only[h1,h2,h3,h4,false_and,true_and,if_false];cases after<;>(try simp only[and_true,and_false,or_false,Bool.false_eq_true])<;>(repeat' split)<;>simp only[Xc,Wo,Wy,and_true,and_false,or_false,or_true,true_or,true_and,false_and,false_or]<;>first|contradiction|omega
 all_goals
  subst h1;simp only[Int.reduceEq,false_and,true_and,if_false,if_true,true_implies,false_implies,or_false,or_true,false_or,true_or] at *;cases after<;>(try simp only[and_true,and_false,or_false,Bool.false_eq_true])<;>(repeat' split)<;>simp only[Xc,Wo,Wy,and_true,and_false,or_false,or_true,true_or,true_and,false_and,false_or]<;>first|contradiction|omega
theorem Rp (op:ZL) (ho:zVt op) (i s y i' s' y':Int) (r r':List Int) (hk:RY op (i::s::y::r)) (aa:RY op (i'::s'::y'::r')) (h:ZX (i::s::y::r) (i'::s'::y'::r')<=0):ZX (Wp op i s (y::r)) (Wp op i' s' (y'::r'))<=0:=by
 obtain⟨kind,row,at_,n,nodes,slot,old,text⟩:=op;have hn:=ho.n;simp only[RY] at hn hk aa;simp only[Xc] at h;clear ho;have hy:kind=4->i=at_->s=slot->0<=y/\y<=n:=fun a b c=>⟨(hk a b c).1,(hk a b c).2.1⟩
 have hy':kind=4->i'=at_->s'=slot->0<=y'/\y'<=n:=fun a b c=>⟨(aa a b c).1,(aa a b c).2.1⟩
 have hr:kind=4->i=at_->s=slot->r=[]\/y<n:=fun a b c=>by
  cases r with
  |nil=>exact .inl rfl
  |cons z r=>exact .inr ((hk a b c).2.2 (by simp))
 clear hk aa;have ae:r=[]\/¬ZX r []<=0:=by
  cases r with
  |nil=>exact .inl rfl
  |cons z r=>exact .inr (Wy z r)
 unfold Wp;simp only[List.cons_append,List.nil_append,List.headD_cons,List.tail_cons];generalize nodes.length=K;rcases ae with rfl|ae
 ·skip
  rcases Qy kind with h1|h1|h1|h1|⟨h1,h2,h3,h4⟩
  case inr.inr.inr.inr =>
   simp only[h1,h2,h3,h4,false_and,true_and,if_false]
   (repeat' split)<;>simp only[Xc,Wo,Wy,and_true,and_false,or_false,or_true,true_or,true_and,false_and,false_or]<;>first|contradiction|omega
  all_goals
   subst h1;simp only[Int.reduceEq,false_and,true_and,if_false,if_true,true_implies,false_implies,or_false,or_true,false_or,true_or] at *
   (repeat' split)<;>simp only[Xc,Wo,Wy,and_true,and_false,or_false,or_true,true_or,true_and,false_and,false_or]<;>first|contradiction|omega
 have hr':kind=4->i=at_->s=slot->y<n:=fun a b c=>by
  rcases hr a b c with e|e
  ·subst e;exact absurd (Wo []) ae
  exact e
 clear hr;rcases Qy kind with h1|h1|h1|h1|⟨h1,h2,h3,h4⟩
 case inr.inr.inr.inr =>
  simp only[h1,h2,h3,h4,false_and,true_and,if_false]
  (repeat' split)<;>simp only[Xc,Wo,Wy,and_true,and_false,or_false,or_true,true_or,true_and,false_and,false_or]<;>first|contradiction|omega
 all_goals
  subst h1;simp only[Int.reduceEq,false_and,true_and,if_false,if_true,true_implies,false_implies,or_false,or_true,false_or,true_or] at *
  (repeat' split)<;>simp only[Xc,Wo,Wy,and_true,and_false,or_false,or_true,true_or,true_and,false_and,false_or]<;>first|contradiction|omega
theorem zTn:(row p x y:List Int)->¬row <+: p->(ZX p (row++x)<=0↔ZX p (row++y)<=0)
 |[],p,x,y,h=>absurd List.nil_prefix h
 |a::row,[],x,y,h=>by simp[ZX]
 |
  a::row,b::p,x,y,h=>by
  simp only[List.cons_append,Xc];by_cases hb:b=a
  ·subst hb;have:=zTn row p x y (fun hp=>h (by obtain⟨s,rfl⟩:=hp;exact⟨s,rfl⟩));rw[this]
  simp[hb]
theorem zTm:(row p x y:List Int)->¬row <+: p->(ZX (row++x) p<=0↔ZX (row++y) p<=0)
 |[],p,x,y,h=>absurd List.nil_prefix h
 |a::row,[],x,y,h=>by simp[ZX]
 |
  a::row,b::p,x,y,h=>by
  simp only[List.cons_append,Xc];by_cases hb:a=b
  ·subst hb;have:=zTm row p x y (fun hp=>h (by obtain⟨s,rfl⟩:=hp;exact⟨s,rfl⟩));rw[this]
  simp[hb]
theorem RG {l l':List Z9} {op:ZL} {a:Nat} (hd:WS l l' op a) (q:List Int) (after:Bool) (h:ZO (Z7 l) q=true):ZO (Z7 l') (Xt op after q)=true:=by
 match q with
 |[]=>simp[ZO] at h
 |[o]=>exact SX hd o after h
 |[i,s]=>have:=Rv _ _ h;simp at this
 |i::s::y::r=>exact SG hd i s y r h
theorem zT9 {l l':List Z9} {op:ZL} {a:Nat} (hd:WS l l' op a) (q:List Int) (h:ZO (Z7 l) q=true):RY op q:=by
 match q with
 |[]=>trivial
 |[o]=>trivial
 |[i,s]=>trivial
 |
  i::s::y::r =>
  intro hk hi hs;obtain⟨i',rfl⟩:=zR4 h;obtain⟨h1,h2,h3⟩:=(VY _ _ _ _).1 h;have hat:=hd.at_;obtain⟨_,_,ae,_⟩:=hd.unw hk;have af:i'=a:=by omega
  subst af;subst hs;have aa:ZO (Z7 (ZZ (Zc l i') op.slot).kids) (y::r)=true:=by
   rw[<-zSf (ZZ (Zc l i') op.slot) (Z7 (ZZ (Zc l i') op.slot).kids) rfl];exact h3
  cases r with
  |
   nil =>
   obtain⟨h3,h4⟩:=(XJ _ _).1 aa;exact⟨h3,by omega,fun h=>absurd rfl h⟩
  |
   cons z r =>
   obtain⟨y',rfl⟩:=zR4 aa;obtain⟨h3,_,_⟩:=(VY _ _ _ _).1 aa;exact⟨by omega,by omega,fun _=>by omega⟩
theorem TC {l l':List Z9} {op:ZL} {a:Nat} (hd:WS l l' op a) (q q':List Int) (after:Bool) (h:ZO (Z7 l) q=true) (h':ZO (Z7 l) q'=true) (hc:ZX q q'<=0):ZX (Xt op after q) (Xt op after q')<=0:=by
 have k:=zT9 hd q h;have k':=zT9 hd q' h';have ho:zVt op:=⟨hd.n⟩
 match q,q' with
 |[],_=>simp[ZO] at h
 |_,[]=>simp[ZO] at h'
 |[i,s],_=>have:=Rv _ _ h;simp at this
 |_,[i,s]=>have:=Rv _ _ h';simp at this
 |[x],[y]=>exact Rt op ho x y after hc
 |[x],i::s::y::r=>exact Rs op ho x i s y r after k' hc
 |i::s::y::r,[x]=>exact Rq op ho x i s y r after k hc
 |i::s::y::r,i'::s'::y'::r'=>exact Rp op ho i s y i' s' y' r r' k k' hc
theorem zUc {t m:Z9} {op:ZL} (h:Zw t op=(m,0)):ZU t=true/\ZU m=true/\(ZP t op.row).2=true/\Zb op=true/\∃l' a,m=ZV t op.row l'/\WS (ZP t op.row).1.kids l' op a:=by
 unfold Zw at h;split at h
 ·injection h with _ h;simp at h
 rename_i h1;split at h
 ·injection h with _ h;simp at h
 rename_i h2;split at h
 ·rename_i h3;injection h with _ h;exact absurd h h3
 rename_i h3;split at h
 ·rename_i h4;injection h with _ h;exact absurd h h4
 rename_i h4;split at h
 ·injection h with _ h;simp at h
 rename_i h5;injection h with h6 _
 have e3:(ZM t op.row).2=0:=Decidable.byContradiction h3;have e4:(ZH (ZM t op.row).1.kids op).2=0:=Decidable.byContradiction h4;have hv:ZU t=true:=by simpa using h1
 have hf:Zb op=true:=by simpa using h2
 obtain⟨f1,f2⟩:=zGx hv e3;obtain⟨a,hd⟩:=SK hf e4;rw[f2] at hd;rw[f2] at h6 h5;exact⟨hv,by rw[<-h6];simpa using h5,f1,hf,_,a,h6.symm,hd⟩
theorem zTo {t m:Z9} {op:ZL} (h:Zw t op=(m,0)) (after:Bool):(∀p,ZO t p=true->ZO m (XF op p after)=true)/\(∀p p',ZO t p=true->ZO t p'=true->ZX p p'<=0->ZX (XF op p after) (XF op p' after)<=0):=by
 obtain⟨hv,hvm,hf,hfm,l',a,rfl,hd⟩:=zUc h;have ah:∀q,ZO t (op.row++q)=ZO (Z7 (ZP t op.row).1.kids) q:=fun q=>by rw[QI _ _ _ hf];exact zSf (ZP t op.row).1 (Z7 (ZP t op.row).1.kids) rfl q
 have af:∀p,¬op.row <+: p->TV op p after=p:=fun p hp=>zVc (by
  cases hw:Xu p op.row
  ·rfl
  obtain⟨q,rfl,_⟩:=zSl hw;exact absurd ⟨q,rfl⟩ hp) after
 constructor
 ·intro p hp;rw[QC];by_cases ae:op.row <+: p
  ·obtain⟨q,rfl⟩:=ae;rw[QD,zSm _ _ _ _ hf];rw[ah] at hp;exact RG hd q after hp
  rw[af p ae,zSa _ _ _ _ hf ae];exact hp
 intro p p' hp ag hc;rw[QC,QC];by_cases ae:op.row <+: p
 ·obtain⟨q,rfl⟩:=ae;by_cases aa:op.row <+: p'
  ·obtain⟨q',rfl⟩:=aa;rw[QD,QD,Q6];rw[Q6] at hc;rw[ah] at hp ag;exact TC hd q q' after hp ag hc
  rw[QD,af p' aa];exact(zTm _ _ _ _ aa).1 hc
 by_cases aa:op.row <+: p'
 ·obtain⟨q',rfl⟩:=aa;rw[QD,af p ae];exact(zTn _ _ _ _ ae).1 hc
 rw[af p ae,af p' aa];exact hc
theorem zGc (t:Z9) (i k:Int) (p:List Int) (hi:0<=i/\i.toNat<t.kids.length) (hk:0<=k/\k.toNat<(ZZ t i).kids.length):ZP t (i::k::p)=ZP (ZZ (ZZ t i) k) p:=by
 rw[ZP,dif_pos hi];have e:ZZ t i=t.kids[i.toNat]:=TQ hi.2;rw[e] at hk ⊢;rw[dif_pos hk,TQ hk.2]
theorem zIe:(p:List Int)->(t:Z9)->(q:List Int)->(ZP t p).2=true->ZP t (p++q)=ZP (ZP t p).1 q
 |[],t,q,_=>rfl
 |[_],t,q,h=>by simp[ZP] at h
 |
  i::k::p,t,q,h=>by
  obtain⟨hi,hk,he⟩:=WK t i k p h;rw[he] at h ⊢;show ZP t (i::k::(p++q))=_;rw[zGc t i k (p++q) hi hk];exact zIe p _ q h
theorem zR7:(p:List Int)->(t:Z9)->(l:List Z9)->(q:List Int)->(ZP t p).2=true->ZP (ZV t p l) (p++q)=ZP (Z7 l) q
 |[],t,l,q,_=>rfl
 |[_],t,l,q,h=>by simp[ZP] at h
 |
  i::k::p,t,l,q,h=>by
  obtain⟨hi,hk,he⟩:=WK t i k p h;rw[he] at h;show ZP (ZV t (i::k::p) l) (i::k::(p++q))=_;rw[ZV];rw[zGc _ i k (p++q) (by rw[TW];exact hi) (by rw[VX hi.2,TW];exact hk)];rw[VX hi.2,VX hk.2];exact zR7 p _ l q h
theorem zNy:(p:List Int)->(t:Z9)->(o:Int)->ZO t (p++[o])=true->(ZP t p).2=true
 |[],t,o,_=>rfl
 |[i],t,o,h=>by have:=Rv _ _ h;simp at this
 |
  i::k::p,t,o,h=>by
  have h':ZO t (i::k::(p++[o]))=true:=h;rw[VW] at h';simp only[Bool.and_eq_true,decide_eq_true_eq] at h';rw[zGc t i k p h'.1 h'.2.1];exact zNy p _ o h'.2.2
theorem zIc:(p:List Int)->(t:Z9)->(q:List Int)->p.length % 2=0->(ZP t (p++q)).2=true->(ZP t p).2=true
 |[],t,q,_,_=>rfl
 |[_],t,q,h,_=>by simp at h
 |
  i::k::p,t,q,h,hf=>by
  have aa:(ZP t (i::k::(p++q))).2=true:=hf;obtain⟨hi,hk,he⟩:=WK t i k (p++q) aa;rw[he] at aa;rw[zGc t i k p hi hk];exact zIc p _ q (by simp at h;omega) aa
theorem R6 {t:Z9} {p:List Int} {o:Int} (h:ZO t (p++[o])=true):(ZP t p).2=true/\0<=o/\o<=(ZP t p).1.kids.length:=by
 have h1:=zNy p t o h;rw[QI p t [o] h1,Tp] at h;exact⟨h1,by simpa using h⟩
theorem zT2 {p:List Int} (h:2<=p.length):∃q i s,p=q++[i,s]:=by
 obtain⟨p1,s,rfl⟩:∃p1 s,p=p1++[s]:=⟨p.dropLast,p.getLast (by intro e;subst e;simp at h),(List.dropLast_concat_getLast _).symm⟩;simp at h;obtain⟨q,i,rfl⟩:∃q i,p1=q++[i]:=⟨p1.dropLast,p1.getLast (by intro e;subst e;simp at h),(List.dropLast_concat_getLast _).symm⟩;exact⟨q,i,s,by simp⟩
theorem QJ {t:Z9} {q:List Int} {i s o:Int} (h:ZO t (q++[i,s]++[o])=true) :
  (ZP t q).2=true/\(0<=i/\i.toNat<(ZP t q).1.kids.length)/\(0<=s/\s.toNat<(ZZ (ZP t q).1 i).kids.length)/\(ZP t (q++[i,s])).1=ZZ (ZZ (ZP t q).1 i) s/\0<=o/\o<=(ZZ (ZZ (ZP t q).1 i) s).kids.length:=by
 obtain⟨h1,h2,h3⟩:=R6 h;have he:q.length % 2=0:=by have:=zId _ _ h1;simp at this;omega
 have h4:=zIc q t [i,s] he h1;have h5:=zIe q t [i,s] h4;rw[h5] at h1;obtain⟨hi,hk,h6⟩:=WK _ i s [] h1;have h7:(ZP t (q++[i,s])).1=ZZ (ZZ (ZP t q).1 i) s:=by rw[h5,h6];rfl
 rw[h7] at h3;exact⟨h4,hi,hk,h7,h2,h3⟩
theorem TY {t:Z9} {p:List Int} (hv:ZU t=true) (h:(ZP t p).2=true):ZM t p=((ZP t p).1,0):=by
 unfold ZM;rw[if_neg (by simp[hv]),if_neg (by simp[h])]
theorem Rb (x:Int) (a:List Int):x<=Yq (x::a)/\Yq (x::a)<=x+1/\(a=[]->Yq (x::a)=x):=by
 unfold Yq;cases a<;>simp<;>omega
theorem zQk {t:Z9} {x:Int} {a:List Int} (h:ZO t (x::a)=true):0<=x/\x<=Yq (x::a)/\Yq (x::a)<=t.kids.length:=by
 obtain⟨b1,b2,b3⟩:=Rb x a
 match a,h with
 |[],h=>rw[Tp] at h;have h:=of_decide_eq_true h;rw[b3 rfl];exact⟨h.1,Int.le_refl _,h.2⟩
 |
  k::q,h =>
  rw[VW] at h;simp only[Bool.and_eq_true,decide_eq_true_eq] at h;refine⟨h.1.1,b1,?_⟩;have:=h.1.2;omega
theorem Uo:(a:List Int)->(t:Z9)->(b:List Int)->ZO t a=true->ZO t b=true ->
  (ZP t (Yp a b).1).2=true/\0<=(Yp a b).2.1/\(Yp a b).2.1<=(Yp a b).2.2/\(Yp a b).2.2<=(ZP t (Yp a b).1).1.kids.length
 |[],t,b,ha,hb=>by simp[ZO] at ha
 |[x],t,b,ha,hb=>bt_base [x] t b ha hb (by unfold Zt;rfl)
 |[x,y],t,b,ha,hb=>by simp[ZO] at ha
 |i::s::x::a,t,[],ha,hb=>by simp[ZO] at hb
 |i::s::x::a,t,[y],ha,hb=>bt_base _ t [y] ha hb (by unfold Zt;rfl)
 |i::s::x::a,t,[y,z],ha,hb=>by simp[ZO] at hb
 |
  i::s::x::a,t,j::k::y::b,ha,hb=>by
  by_cases he:i=j/\s=k
  ·obtain⟨rfl,rfl⟩:=he;have e1:Yp (i::s::x::a) (i::s::y::b)=(i::s::(Yp (x::a) (y::b)).1,(Yp (x::a) (y::b)).2):=by
    unfold Yp;rw[Zt,if_pos ⟨rfl,rfl⟩];rfl
   rw[VW] at ha hb;simp only[Bool.and_eq_true,decide_eq_true_eq] at ha hb;rw[e1,zGc t i s _ ha.1 ha.2.1];exact Uo (x::a) _ (y::b) ha.2.2 hb.2.2
  exact bt_base _ t _ ha hb (by rw[Zt,if_neg he])
where
 bt_base (a:List Int) (t:Z9) (b:List Int) (ha:ZO t a=true) (hb:ZO t b=true) (h:Zt a b=0) :
   (ZP t (Yp a b).1).2=true/\0<=(Yp a b).2.1/\(Yp a b).2.1<=(Yp a b).2.2/\(Yp a b).2.2<=(ZP t (Yp a b).1).1.kids.length:=by
  unfold Yp;rw[h]
  match a,b,ha,hb with
  |[],_,ha,_=>simp[ZO] at ha
  |_::_,[],_,hb=>simp[ZO] at hb
  |
   x::a,y::b,ha,hb =>
   have h1:=zQk ha;have h2:=zQk hb;simp only[List.take_zero,List.drop_zero,List.getD_cons_zero,ZP];refine⟨trivial,by omega,by omega,by omega⟩
theorem Wt {t:Z9} {p m:List Int} (h:(ZK t p m).2=0):ZU t=true/\ZO t p=true/\(m.length=0\/ZO t m=true) /\
  (ZP t (ZK t p m).1.1).2=true/\0<=(ZK t p m).1.2.1/\(ZK t p m).1.2.1<=(ZK t p m).1.2.2/\(ZK t p m).1.2.2<=(ZP t (ZK t p m).1.1).1.kids.length:=by
 unfold ZK at h ⊢;by_cases hm:m.length=0
 ·rw[if_pos hm] at h ⊢;unfold Xi at h ⊢;split at h
  ·simp at h
  rename_i h1;rw[if_neg h1];split at h
  ·simp at h
  rename_i h2;rw[if_neg h2];have h3:ZO t p=true:=by simpa using h2
  exact⟨by simpa using h1,h3,.inl hm,Uo p t p h3 h3⟩
 rw[if_neg hm] at h ⊢;unfold Xi at h ⊢;split at h
 ·simp at h
 rename_i h1;rw[if_neg h1];split at h
 ·simp at h
 rename_i h2;rw[if_neg h2];have h3:ZO t p=true/\ZO t m=true:=by simpa using h2
 exact⟨by simpa using h1,h3.1,.inr h3.2,Uo p t m h3.1 h3.2⟩
theorem zN4 {t:Z9} {p m:List Int} (h:(ZK t p m).2=0):(Yk t (ZK t p m).1.1 (ZK t p m).1.2.1 (ZK t p m).1.2.2).2=0/\((Yk t (ZK t p m).1.1 (ZK t p m).1.2.1 (ZK t p m).1.2.2).1.length:Int)=(ZK t p m).1.2.2-(ZK t p m).1.2.1:=by
 obtain⟨hv,_,_,h1,h2,h3,h4⟩:=Wt h;unfold Yk;rw[TY hv h1,if_neg (by simp),if_neg (by simp only;omega)];simp;omega
def We (t:Z9) (p m:List Int) (back:Bool):Ze×Int :=
 let row:=(ZM t p.dropLast).1.kids
 let i:=if back then p.getLastD 0-1 else p.getLastD 0
 if 0<=i/\i<row.length then
  (if Yc (Zc row i.toNat).kids 0 (-1)=false then WJ t p m [Zf p.dropLast i [Zc row i.toNat]] (p.dropLast++[i]) else Xa t p m back)
 else match Y5 t p with
  |some x=>if Yc x.item.kids 0 x.own=false then WJ t p m [YL x] (x.row++[if back then x.at_ else x.at_+(YL x).n]) else Xa t p m back
  |none=>Xa t p m back
theorem zJs {t:Z9} {p m:List Int} {back:Bool} (h1:(ZK t p m).2=0) (h2:¬(ZK t p m).1.2.1<(ZK t p m).1.2.2):WB t p m back=We t p m back:=by
 unfold WB;rw[if_neg (by simp[h1]),if_neg h2];rfl
theorem zN8:(q:List Int)->(o:Int)->q.length % 2=0->Zt (q++[o]) (q++[o])=q.length
 |[],o,_=>rfl
 |[_],o,h=>by simp at h
 |
  i::s::q,o,h=>by
  have ih:=zN8 q o (by simp at h;omega);cases q with
  |nil=>simp[Zt]
  |
   cons x q =>
   show Zt (i::s::x::(q++[o])) (i::s::x::(q++[o]))=_;rw[Zt,if_pos ⟨rfl,rfl⟩];have aa:Zt (x::(q++[o])) (x::(q++[o]))=(x::q).length:=ih;rw[aa];rfl
theorem Ti {t:Z9} {q:List Int} {o:Int} (hv:ZU t=true) (hp:ZO t (q++[o])=true):ZK t (q++[o]) []=((q,o,o),0):=by
 have he:q.length % 2=0:=by have:=Rv _ _ hp;simp at this;omega
 unfold ZK Yp;rw[if_pos (by simp),hv,hp,zN8 q o he];have g1:(q++[o]).getD q.length 0=o:=by rw[List.getD_eq_getElem?_getD,List.getElem?_append_right (Nat.le_refl _)];simp
 rw[g1,List.drop_left,List.take_left']
 ·simp[Xi,Yq]
 rfl
theorem zUb {t:Z9} {q2:List Int} {i s o:Int} (hv:ZU t=true) (hp:ZO t (q2++[i,s]++[o])=true):Y5 t (q2++[i,s]++[o])=some ⟨q2,i,s,ZZ (ZP t q2).1 i⟩:=by
 obtain⟨h4,hi,hk,h7,_⟩:=QJ hp;have e1:(YR t q2 i).1=ZZ (ZP t q2).1 i:=by
  unfold YR;rw[TY hv h4,if_neg (by simp),if_neg (by simp only;omega)];simp only[Zc,ZZ]
 unfold Y5;rw[if_neg (by simp)];simp only[List.append_assoc,List.cons_append,List.nil_append,List.length_append,List.length_cons,List.length_nil,Nat.zero_add,Nat.reduceAdd,Nat.add_sub_cancel,List.take_left'];have g1:(q2++[i,s,o]).getD q2.length 0=i:=by rw[List.getD_eq_getElem?_getD,List.getElem?_append_right (Nat.le_refl _)];simp
 have g2:(q2++[i,s,o]).getD (q2.length+3-2) 0=s:=by rw[List.getD_eq_getElem?_getD,List.getElem?_append_right (by omega),show q2.length+3-2-q2.length=1 by omega];rfl
 rw[g1,g2,e1]
def QT (w:World) (r:List Z9×Int) (e:Ending) (w':World):Prop :=
 ∃v,e=.returned (.tuple #[v,.int .i64 r.2])/\Z8 Z6 w' (fun k=>w.heap.size<=k/\k<w'.heap.size) r.1 v/\Below w.heap.size w w'
theorem zOu (t:Z9) (p:List Int) (x y:Int) (A Ap:Option Addr) (cap cp:Nat) (w:World) (hv:Z8 Z6 w (Lt w.heap.size) t.kids (.slice A t.kids.length cap)) (aj:Zk t) (au:ZR t<=900000) (hp:Z0 w (Lt w.heap.size) p (.slice Ap p.length cp)) (hx:Z4 x) (hy:Z4 y) :
  Calls Tryz.prog 86 #[.agg #[.int .i64 t.kind,.string t.text,.int .i64 t.cols,.slice A t.kids.length cap],.agg #[.slice Ap p.length cp,.int .i64 x,.int .i64 y]] w (QT w (Yk t p x y)):=by
 have C1:Hid (∀W,Below w.heap.size w W->Calls Tryz.prog 83 #[.agg #[.int .i64 t.kind,.string t.text,.int .i64 t.cols,.slice A t.kids.length cap],.slice Ap p.length cp] W (RowV W (ZM t p).1 (ZM t p).2)):=fun W hW=>(zKi (.mk t.kind t.text t.cols t.kids) p A Ap cap cp W (by exact hv.below hW hW.size) aj (by cases t;exact au) (hp.below hW hW.size)).mono fun _ _ h=>by cases t;obtain⟨v,h1,h2,h3⟩:=h;exact⟨v,h1,h2.keep (Wi _ _) (fun k hk=>hk.2),h3⟩
 have HR:Hid (((ZM t p).2≠0->Yk t p x y=([],(ZM t p).2))/\((ZM t p).2=0->(x<0\/y<x\/(ZM t p).1.kids.length<y)->Yk t p x y=([],2))/\((ZM t p).2=0->¬(x<0\/y<x\/(ZM t p).1.kids.length<y)->Yk t p x y=(((ZM t p).1.kids.take y.toNat).drop x.toNat,0))) :=
  ⟨fun h=>if_pos h,fun h1 h2=>(if_neg (by simp[h1])).trans (if_pos h2),fun h1 h2=>(if_neg (by simp[h1])).trans (if_neg h2)⟩
 have HC:Hid (ZQ (ZM t p).1.kids<=900000):=zHt t p hv aj au;generalize Yk t p x y=res at *;generalize ZM t p=r at *;obtain⟨tk,tx,tc,ts⟩:=t;obtain⟨⟨rk,rx,rc,rs⟩,er⟩:=r;simp only[Z9.kind,Z9.text,Z9.cols,Z9.kids] at *;clear hv aj au hp;generalize ax:(w.alloc (Obj.cells #[.int .i64 tk,.string tx,.int .i64 tc,.slice A ts.length cap] 24)).alloc (.cells #[.slice Ap p.length cp,.int .i64 x,.int .i64 y] 67)=W0;have KB:Hid (∀W,Below W0.heap.size W0 W->(W.cell? ⟨w.heap.size,0,none⟩=some (.int .i64 tk)/\W.cell? ⟨w.heap.size,1,none⟩=some (.string tx)/\W.cell? ⟨w.heap.size,2,none⟩=some (.int .i64 tc)/\W.cell? ⟨w.heap.size,3,none⟩=some (.slice A ts.length cap)) /\
   (W.cell? ⟨w.heap.size+1,0,none⟩=some (.slice Ap p.length cp)/\W.cell? ⟨w.heap.size+1,1,none⟩=some (.int .i64 x)/\W.cell? ⟨w.heap.size+1,2,none⟩=some (.int .i64 y))/\Below w.heap.size w W):=by
  intro W hW;have hz:W0.heap.size=w.heap.size+1+1:=by rw[<-ax];simp
  have hc:=(bcell hW).1;have aD:Below w.heap.size w W0:=by rw[<-ax];exact TJ (WI _ _) _
  refine⟨⟨(hc _ _ (by omega)).trans ?_,(hc _ _ (by omega)).trans ?_,(hc _ _ (by omega)).trans ?_,(hc _ _ (by omega)).trans ?_⟩,⟨(hc _ _ (by omega)).trans ?_,(hc _ _ (by omega)).trans ?_,(hc _ _ (by omega)).trans ?_⟩,aD.trans (hW.mono aD.size)⟩
  all_goals (rw[<-ax];first|exact Xn _ _ _ _ _ _ rfl|exact YY _ _ _ _ _ (by simp))
 obtain⟨⟨m0,m1,m2,m3⟩,⟨c0,c1,c2⟩,ae⟩:=KB.out W0 (Qg _ _);have aA:=hid ae;clear ae;go_enter Tryz.func86,Tryz.ntmps86
 go_wp2_with fail
 refine(C1.out _ aA.out).mono ?_;intro e w1 h1;obtain⟨v1,rfl,ah,aG⟩:∃v,e=.returned (.tuple #[.agg #[.int .i64 rk,.string rx,.int .i64 rc,v],.int .i64 er])/\Z8 Z6 w1 (Lt w1.heap.size) rs v/\Below W0.heap.size W0 w1:=h1;obtain⟨A1,n1,rfl⟩:=ah.form;have aH:=hid ah;have aB:=hid aG;clear m0 m1 m2 m3 c0 c1 c2 ah aG;rcases Decidable.em (er=0) with he|he
 case inr =>
  have HE:=hid he;have i0:(er != 0)=true:=by simpa using he
  go_wp2_with fail
  refine bodyPost_ret (v:=.tuple #[.slice none 0 0,.int .i64 er]) (by simp[results,Tryz.results86,go_sem]) rfl ?_;rw[HR.out.1 HE.out];exact⟨_,rfl,Z8.nil_ 0 (Qj _) none,TJ (KB.out w1 aB.out).2.2 _⟩
 subst he
 go_upto_region 4 with fail
 obtain⟨X,hX⟩:∃X,w1.alloc (Obj.cells #[.int .i64 rk,.string rx,.int .i64 rc,.slice A1 rs.length n1] 24)=X:=⟨_,rfl⟩;rw[hX];have ay:Hid (Below w1.heap.size w1 X):=by show Below _ _ _;rw[<-hX];exact WI _ _
 obtain⟨_,⟨_,b1,b2⟩,aC⟩:=KB.out X (aB.out.trans (ay.out.mono aB.out.size));have n3:X.cell? ⟨w1.heap.size,3,none⟩=some (.slice A1 rs.length n1):=by rw[<-hX];exact YY _ _ _ _ _ rfl
 have aa:=hid aC;have aM:=hid (aH.out.below ay.out ay.out.size);clear aC hX;have aJ:rs.length<=n1:=by obtain⟨_,_,_,hq,h1,_⟩:=aH.out;cases hq;exact h1
 rcases Int.lt_or_le x 0 with h0|h0
 ·have i0:decide (x<0)=true:=by simpa using h0
  have HH:=hid h0;clear h0
  go_wp2_with fail
  refine bodyPost_ret (v:=.tuple #[.slice none 0 0,.int .i64 2]) (by simp[results,Tryz.results86,go_sem]) rfl ?_;rw[HR.out.2.1 trivial (Or.inl HH.out)];exact⟨_,rfl,Z8.nil_ 0 (Qj _) none,aa.out⟩
 have i0:decide (x<0)=false:=by simpa using h0
 rcases Int.lt_or_le y x with h1|h1
 ·have i1:decide (y<x)=true:=by simpa using h1
  have HH:=hid h1;clear h1 h0
  go_wp2_with fail
  refine bodyPost_ret (v:=.tuple #[.slice none 0 0,.int .i64 2]) (by simp[results,Tryz.results86,go_sem]) rfl ?_;rw[HR.out.2.1 trivial (Or.inr (Or.inl HH.out))];exact⟨_,rfl,Z8.nil_ 0 (Qj _) none,aa.out⟩
 have i1:decide (y<x)=false:=by simpa using h1
 rcases Int.lt_or_le rs.length y with h2|h2
 ·have i2:decide ((rs.length:Int)<y)=true:=by simpa using h2
  have HH:=hid h2;clear h1 h0 h2
  go_wp2_with fail
  refine bodyPost_ret (v:=.tuple #[.slice none 0 0,.int .i64 2]) (by simp[results,Tryz.results86,go_sem]) rfl ?_;rw[HR.out.2.1 trivial (Or.inr (Or.inr HH.out))];exact⟨_,rfl,Z8.nil_ 0 (Qj _) none,aa.out⟩
 have i2:decide ((rs.length:Int)<y)=false:=by simpa using h2
 obtain⟨x',ag⟩:∃x':Nat,x=x':=⟨x.toNat,by omega⟩;obtain⟨y',af⟩:∃y':Nat,y=y':=⟨y.toNat,by omega⟩;obtain⟨A2,hsl,hcut⟩:=Qt Z6 Tryz.underlying22 Vw A1 rs.length n1 x y x' y' ag af (by omega) (by omega) aJ;have aN:=hid (hcut _ _ _ aM.out);have az:Hid (res=((rs.take y').drop x',0)):=by
  have h:=HR.out.2.2 trivial (by show ¬(x<0\/y<x\/(rs.length:Int)<y);omega);rw[ag,af,Int.toNat_natCast,Int.toNat_natCast] at h;exact h
 have aK:Hid (((rs.take y').drop x').length=y'-x'):=by show _=_;simp;omega
 have av:Hid (ZQ ((rs.take y').drop x')<=900000):=by
  have h1:=zE0 (rs.take y') x';have h2:=Xx rs y';have h3:=HC.out;show _<=_;omega
 clear hcut h0 h1 h2 HR ag af
 go_wp2_with fail
 refine(zGe _ _ _ aN.out (Qf av.out (by omega))).mono ?_;generalize (rs.take y').drop x'=L at *;rintro e w2 ⟨v2,rfl,ak,aF⟩;obtain⟨A3,aI,rfl⟩:=ak.form;have aL:=hid ak;have aO:=hid aF;clear ak aF
 go_wp2_with fail
 refine bodyPost_ret (v:=.tuple #[.slice A3 L.length aI,.int .i64 0]) (by simp[results,Tryz.results86,go_sem]) rfl ?_;rw[az.out];exact⟨_,rfl,aL.out.rows.keep (fun _ _=>rfl) (fun k hk=>⟨Qf aa.out.size hk.1,hk.2⟩),aa.out.trans (aO.out.mono aa.out.size)⟩
theorem zQa (t:Z9) (p:List Int) (i:Int) (A Ap:Option Addr) (cap cp:Nat) (w:World) (hv:Z8 Z6 w (Lt w.heap.size) t.kids (.slice A t.kids.length cap)) (aH:Zk t) (bz:ZR t<=900000) (hp:Z0 w (Lt w.heap.size) p (.slice Ap p.length cp)) :
  Calls Tryz.prog 84 #[.agg #[.int .i64 t.kind,.string t.text,.int .i64 t.cols,.slice A t.kids.length cap],.slice Ap p.length cp,.int .i64 i] w (XB w (YR t p i).1 (YR t p i).2):=by
 have C1:Hid (∀W,Below w.heap.size w W->Calls Tryz.prog 53 #[.agg #[.int .i64 t.kind,.string t.text,.int .i64 t.cols,.slice A t.kids.length cap]] W fun e w'=>e=.returned (.bool (ZU t))/\Below W.heap.size W w'):=fun W hW=>Wh t A cap W (hv.below hW hW.size) aH.2.2
 have C2:Hid (∀W,Below w.heap.size w W->W.cell? ⟨w.heap.size,0,none⟩=some (.int .i64 t.kind)/\W.cell? ⟨w.heap.size,1,none⟩=some (.string t.text)/\W.cell? ⟨w.heap.size,2,none⟩=some (.int .i64 t.cols)/\W.cell? ⟨w.heap.size,3,none⟩=some (.slice A t.kids.length cap)->w.heap.size<W.heap.size ->
   Calls Tryz.prog 113 #[.pointer (some ⟨w.heap.size,0,none⟩),.slice Ap p.length cp] W (Uc W (ZE t p))):=fun W hW hc hz=>by
  obtain⟨_,_,rs,hq,h1,h2,h3,h4⟩:=hv.below hW hW.size;cases hq;exact zG0 t p w.heap.size 0 A cap rs _ W ⟨by simpa using hc,hz,aH.2.2,h1,h2,h3,h4⟩ (hp.below hW hW.size)
 have C3:Hid (∀t',ZE t p=some t'->Zk t'/\ZR t'<=1000000):=fun t' h=>by
  obtain⟨h1,h2⟩:=zJ7 t p t' h aH ⟨_,hv⟩;exact⟨h1,by omega⟩
 have HR:Hid ((ZU t=false->YR t p i=(ZN,1))/\(ZU t=true->ZE t p=none->YR t p i=(ZN,8))/\(∀x,ZU t=true->ZE t p=some x->(i<0\/(x.kids.length:Int)<=i)->YR t p i=(ZN,2))/\(∀x,ZU t=true->ZE t p=some x->¬(i<0\/(x.kids.length:Int)<=i)->YR t p i=(Zc x.kids i.toNat,0))):=by
  refine⟨fun h=>?_,fun h h1=>?_,fun x h h1 h2=>?_,fun x h h1 h2=>?_⟩
  ·unfold YR ZM;rw[if_pos h];simp
  ·rw[Re] at h1;unfold YR ZM;cases hf:(ZP t p).2
   ·simp[h]
   rw[hf] at h1;simp at h1
  ·rw[Re] at h1;cases hf:(ZP t p).2
   ·rw[hf] at h1;simp at h1
   rw[hf] at h1;simp at h1;have e1:ZM t p=(x,0):=by unfold ZM;rw[if_neg (by simp[h]),if_neg (by rw[hf];simp),h1]
   unfold YR;rw[e1,if_neg (by simp),if_pos h2]
  rw[Re] at h1;cases hf:(ZP t p).2
  ·rw[hf] at h1;simp at h1
  rw[hf] at h1;simp at h1;have e1:ZM t p=(x,0):=by unfold ZM;rw[if_neg (by simp[h]),if_neg (by rw[hf];simp),h1]
  unfold YR;rw[e1,if_neg (by simp),if_neg h2]
 generalize YR t p i=bB at *;generalize ZE t p=f at *;generalize bA:ZU t=bv at *;clear hv aH bz hp bA;obtain⟨W0,aJ⟩:∃W0,(w.alloc (Obj.cells #[.int .i64 t.kind,.string t.text,.int .i64 t.cols,.slice A t.kids.length cap] 24)).alloc (Obj.cells #[.int .i64 0,.string ⟨#[]⟩,.int .i64 0,.slice none 0 0] 24)=W0:=⟨_,rfl⟩;have aa:Hid (W0.heap.size=w.heap.size+1+1):=by show _=_;rw[<-aJ];simp
 have KB:Hid (∀W,Below W0.heap.size W0 W->FB W w.heap.size (.int .i64 t.kind) (.string t.text) (.int .i64 t.cols) (.slice A t.kids.length cap)/\FB W (w.heap.size+1) (.int .i64 0) (.string ⟨#[]⟩) (.int .i64 0) (.slice none 0 0)/\Below w.heap.size w W):=by
  intro W hW;have hz:W0.heap.size=w.heap.size+1+1:=aa.out;refine⟨FB.below (B:=W0.heap.size) ?_ hW (by omega),FB.below (B:=W0.heap.size) ?_ hW (by omega),Below.trans ?_ (hW.mono (by omega))⟩
  ·rw[<-aJ];exact(FB.new w _ _ _ _ _ rfl).below (ZW _ _) (by simp)
  ·rw[<-aJ];exact FB.new _ _ _ _ _ _ (by simp)
  rw[<-aJ];exact Zy (ZW _ _) _
 obtain⟨⟨⟨m0,m1,m2,m3⟩,_⟩,⟨⟨c0,c1,c2,c3⟩,⟨f0,f1,f2,f3⟩⟩,aA⟩:=KB.out W0 (Qg _ _);have aP:=hid aA;clear aA;go_enter Tryz.func84,Tryz.ntmps84
 go_wp2_with fail
 refine(C1.out _ aP.out).mono ?_;rintro e w1 ⟨rfl,aI⟩;clear m0 m1 m2 m3 c0 c1 c2 c3 f0 f1 f2 f3;have bg:=hid aI;obtain⟨⟨⟨m0,m1,m2,m3⟩,_⟩,⟨⟨c0,c1,c2,c3⟩,⟨f0,f1,f2,f3⟩⟩,az⟩:=KB.out w1 aI;have aC:=hid az;have bC:Hid (w.heap.size<w1.heap.size):=by show _<_;have:=aI.size;have:=aa.out;omega
 clear aI az;cases bv
 ·have HC:=hid (Qh c0 (Qh c1 (Qh c2 c3)))
  go_wp2_with fail
  generalize hW:(((w1.setCell _ (.int .i64 0)).setCell _ (.string ⟨#[]⟩)).setCell _ (.int .i64 0)).setCell _ (.slice none 0 0)=W;obtain⟨⟨r0,r1,r2,r3⟩,rz,rb,ro,_⟩:=four HC.out.1 HC.out.2.1 HC.out.2.2.1 HC.out.2.2.2 _ _ _ _ hW.symm;have ae:=hid (rb w.heap.size w (by omega) aC.out);clear hW ro rb;refine bodyPost_ret (v:=.tuple #[.agg #[.int .i64 0,.string ⟨#[]⟩,.int .i64 0,.slice none 0 0],.int .i64 1]) (by simp[results,Tryz.results84,go_sem,r0,r1,r2,r3]) rfl ?_;rw[HR.out.1 (by trivial)];exact⟨_,rfl,Z8.nil_ 0 (Qj _) none,ae.out⟩
 go_wp2_with fail
 refine(C2.out _ aC.out ⟨m0,m1,m2,m3⟩ bC.out).mono ?_;rintro e w2 ⟨⟨n2,aD⟩,av⟩;have aB:Below w1.heap.size w1 w2:=by rw[aD];exact XD (Qg _ _) n2
 have aK:=hid (bg.out.trans (aB.mono bg.out.size));clear m0 m1 m2 m3 c0 c1 c2 c3 f0 f1 f2 f3;obtain⟨⟨⟨m0,m1,m2,m3⟩,_⟩,⟨⟨c0,c1,c2,c3⟩,⟨f0,f1,f2,f3⟩⟩,ay⟩:=KB.out w2 aK.out;have af:=hid ay;clear ay;rcases av with ⟨aQ,q,rfl⟩|⟨t',g,o,A',cap',rs,aF,rfl,⟨d0,d1,d2,d3⟩,bu,bq,aU,aM,aT,aS⟩
 ·have HE:=hid (HR.out.2.1 (by trivial) aQ);clear aB aD aQ;have HC:=hid (Qh c0 (Qh c1 (Qh c2 c3)))
  go_wp2_with fail
  generalize hW:(((w2.setCell _ (.int .i64 0)).setCell _ (.string ⟨#[]⟩)).setCell _ (.int .i64 0)).setCell _ (.slice none 0 0)=W;obtain⟨⟨r0,r1,r2,r3⟩,rz,rb,ro,_⟩:=four HC.out.1 HC.out.2.1 HC.out.2.2.1 HC.out.2.2.2 _ _ _ _ hW.symm;have ae:=hid (rb w.heap.size w (by omega) af.out);clear hW ro rb;refine bodyPost_ret (v:=.tuple #[.agg #[.int .i64 0,.string ⟨#[]⟩,.int .i64 0,.slice none 0 0],.int .i64 8]) (by simp[results,Tryz.results84,go_sem,r0,r1,r2,r3]) rfl ?_;rw[HE.out];exact⟨_,rfl,Z8.nil_ 0 (Qj _) none,ae.out⟩
 have aL:Z8 Z6 w2 (Lt w2.heap.size) t'.kids (.slice A' t'.kids.length cap'):=Z8.below (B:=w1.heap.size) ⟨A',cap',rs,rfl,aU,aM,aT,aS⟩ aB aB.size
 replace d3:w2.cell? ⟨g,o+3,none⟩=some (.slice A' t'.kids.length cap'):=by rw[aD];exact d3
 have aN:=hid (HR.out.2.2.1 t' (by trivial) aF);have aZ:=hid (HR.out.2.2.2 t' (by trivial) aF);have HT:=hid (C3.out t' aF);have au:=aM;unfold maxLen at au;have hln:(t'.kids.length:Int)<=9223372036854775807:=by omega
 clear d0 d1 d2 aB aD bu bq aU aM aT aS au aF;rcases Int.lt_or_le i 0 with h1|h1
 ·have i1:decide (i<0)=true:=by simpa using h1
  have HE:=hid (aN.out (.inl h1));clear aL;have HC:=hid (Qh c0 (Qh c1 (Qh c2 c3)))
  go_wp2_with fail
  generalize hW:(((w2.setCell _ (.int .i64 0)).setCell _ (.string ⟨#[]⟩)).setCell _ (.int .i64 0)).setCell _ (.slice none 0 0)=W;obtain⟨⟨r0,r1,r2,r3⟩,rz,rb,ro,_⟩:=four HC.out.1 HC.out.2.1 HC.out.2.2.1 HC.out.2.2.2 _ _ _ _ hW.symm;have ae:=hid (rb w.heap.size w (by omega) af.out);clear hW ro rb;refine bodyPost_ret (v:=.tuple #[.agg #[.int .i64 0,.string ⟨#[]⟩,.int .i64 0,.slice none 0 0],.int .i64 2]) (by simp[results,Tryz.results84,go_sem,r0,r1,r2,r3]) rfl ?_;rw[HE.out];exact⟨_,rfl,Z8.nil_ 0 (Qj _) none,ae.out⟩
 have i1:decide (i<0)=false:=by simpa using h1
 rcases Int.lt_or_le i t'.kids.length with h2|h2;rotate_left
 ·have i2:decide ((t'.kids.length:Int)<=i)=true:=by simpa using h2
  have HE:=hid (aN.out (.inr h2));clear aL;have HC:=hid (Qh c0 (Qh c1 (Qh c2 c3)))
  go_wp2_with fail
  generalize hW:(((w2.setCell _ (.int .i64 0)).setCell _ (.string ⟨#[]⟩)).setCell _ (.int .i64 0)).setCell _ (.slice none 0 0)=W;obtain⟨⟨r0,r1,r2,r3⟩,rz,rb,ro,_⟩:=four HC.out.1 HC.out.2.1 HC.out.2.2.1 HC.out.2.2.2 _ _ _ _ hW.symm;have ae:=hid (rb w.heap.size w (by omega) af.out);clear hW ro rb;refine bodyPost_ret (v:=.tuple #[.agg #[.int .i64 0,.string ⟨#[]⟩,.int .i64 0,.slice none 0 0],.int .i64 2]) (by simp[results,Tryz.results84,go_sem,r0,r1,r2,r3]) rfl ?_;rw[HE.out];exact⟨_,rfl,Z8.nil_ 0 (Qj _) none,ae.out⟩
 have i2:decide ((t'.kids.length:Int)<=i)=false:=by simpa using h2
 obtain⟨k,rfl⟩:∃k:Nat,i=k:=⟨i.toNat,by omega⟩;have hk:k<t'.kids.length:=by omega
 have HE:Hid (bB=(t'.kids[k],0)):=by
  show _=_;rw[aZ.out (by omega),Int.toNat_natCast];show ((t'.kids.getD k ZN,(0:Int)):Z9×Int)=_;rw[zM2 hk]
 obtain⟨_,_,rs2,hq,_,_,ah,ak⟩:=aL;cases hq;obtain⟨gi,oi,Ai,ci,bn,rfl,hgi,q0,q1,q2,q3,e1,e2,e3,e4,e5,ag,aj⟩:=YW ah ak hk;have aR:Z8 Z6 w2 (Lt w2.heap.size) t'.kids[k].kids (.slice Ai t'.kids[k].kids.length ci):=⟨_,_,bn,rfl,e4,e5,ag,aj⟩;have aV:ZR t'.kids[k]<=1000000:=by
  have h8:=Qr (t:=t') hk;have h9:=HT.out.2;omega
 have CD:=hid (zDq t'.kids[k] Ai ci w2 aR ⟨e1,e2,e3⟩ aV);generalize t'.kids[k]=x at *;obtain⟨xk,xt,xc,xs⟩:=x;simp only[Z9.kind,Z9.text,Z9.cols,Z9.kids] at CD q0 q1 q2 q3;clear ah ak ag aj e1 e2 e3 e4 e5 aR aV aN aZ h1 h2;have i3:(0:Int)<=(k:Int):=by omega
 have i4:(k:Int)<(t'.kids.length:Int):=by omega
 go_wp2_with fail
 refine CD.out.mono ?_;rintro e w3 ⟨v3,rfl,aG,aW⟩;simp only[Z9.kind,Z9.text,Z9.cols,Z9.kids] at aG ⊢;obtain⟨A3,aX,rfl⟩:=aG.form;have bG:=hid aG;have bH:=hid (aK.out.trans (aW.mono aK.out.size));clear m0 m1 m2 m3 c0 c1 c2 c3 f0 f1 f2 f3;obtain⟨⟨⟨m0,m1,m2,m3⟩,_⟩,⟨⟨c0,c1,c2,c3⟩,⟨f0,f1,f2,f3⟩⟩,ax⟩:=KB.out w3 bH.out;have aO:=hid ax;have aY:Hid (W0.heap.size<=w2.heap.size):=aK.out.size;have HC:=hid (Qh c0 (Qh c1 (Qh c2 c3)));clear aW ax aG q0 q1 q2 q3 d3
 go_wp2_with fail
 generalize hW:(((w3.setCell _ (.int .i64 xk)).setCell _ (.string xt)).setCell _ (.int .i64 xc)).setCell _ (.slice A3 xs.length aX)=W;obtain⟨⟨r0,r1,r2,r3⟩,rz,rb,ro,_⟩:=four HC.out.1 HC.out.2.1 HC.out.2.2.1 HC.out.2.2.2 _ _ _ _ hW.symm;have ae:=hid (rb w.heap.size w (by omega) aO.out);have bD:Hid (∀q:Addr,q.block≠w.heap.size+1->W.cell? q=w3.cell? q):=ro;clear hW ro rb;refine bodyPost_ret (v:=.tuple #[.agg #[.int .i64 xk,.string xt,.int .i64 xc,.slice A3 xs.length aX],.int .i64 0]) (by simp[results,Tryz.results84,go_sem,r0,r1,r2,r3]) rfl ?_;rw[HE.out];exact⟨_,rfl,bG.out.keep (fun q hq=>bD.out q (by have:=hq.1;have:=aY.out;have:=aa.out;omega)) (fun q hq=>⟨by have:=hq.1;have:=aY.out;have:=aa.out;omega,by rw[rz];exact hq.2⟩),ae.out⟩
