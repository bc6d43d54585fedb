/- T -/
import Derived.Test.YthpngeboknmllaaGreatQ7dde
import Derived.Laws.ResultCell
import Derived.Laws.OwnMore
set_option linter.unusedVariables false
set_option linter.unusedSimpArgs false
set_option maxHeartbeats 4000000
set_option maxRecDepth 100000
namespace Go.Proofs.YthpngeboknmllaaGreat
open Go.RowKit
theorem zQg (k:Int) {a b:List Z9} (h:a.Sublist b):XV k b=true->XV k a=true/\ZQ a<=ZQ b/\YI a<=YI b:=by
 induction h with
 |slnil=>exact fun h=>⟨h,Qi _,Qi _⟩
 |
  cons x _ ih =>
  intro h;rw[UK] at h;simp only[Bool.and_eq_true] at h;obtain⟨h1,h2,h3⟩:=ih h.2;exact⟨h1,by rw[ZQ];omega,by rw[YI];omega⟩
 |
  cons_cons x _ ih =>
  intro h;rw[UK] at h;simp only[Bool.and_eq_true] at h;obtain⟨h1,h2,h3⟩:=ih h.2;refine⟨by rw[UK];simp only[Bool.and_eq_true];exact⟨h.1,h1⟩,by rw[ZQ,ZQ];omega,by rw[YI,YI];omega⟩
theorem zPq {a b:List Z9} (h:a.Sublist b) (hf:Y9 (Z7 b)=true):Y9 (Z7 a)=true/\ZR (Z7 a)<=ZR (Z7 b)/\Y4 (Z7 a)<=Y4 (Z7 b):=by
 unfold Z7 at *;rw[Y9] at hf ⊢;simp only[Bool.and_eq_true] at hf ⊢;obtain⟨h1,h2,h3⟩:=zQg 1 h hf.2;have hl:=h.length_le;refine⟨⟨⟨hf.1.1,?_⟩,h1⟩,by rw[ZR,ZR];omega,by rw[Y4,Y4];omega⟩;have h4:=hf.1.2;simp[Zp] at h4 ⊢;omega
theorem zJn (k:Int):(ts:List Z9)->(i:Nat)->(x:Z9)->(hi:i<ts.length)->XV k ts=true->Y9 x=true->(x.kind==1)=(ts[i].kind==1)->XV k (ts.set i x)=true
 |
  t::ts,0,x,_,h,hx,hk=>by
  simp only[List.getElem_cons_zero] at hk;rw[List.set_cons_zero,UK,hk,hx];rw[UK] at h;simp only[Bool.and_eq_true] at h ⊢;exact⟨⟨h.1.1,trivial⟩,h.2⟩
 |
  t::ts,i+1,x,hi,h,hx,hk=>by
  rw[List.set_cons_succ,UK];rw[UK] at h;simp only[Bool.and_eq_true] at h ⊢;exact⟨h.1,zJn k ts i x (by simpa using hi) h.2 hx (by simpa using hk)⟩
theorem zIg:(ts:List Z9)->(i:Nat)->(x:Z9)->(hi:i<ts.length)->Y4 x<=Y4 ts[i]->YI (ts.set i x)<=YI ts
 |t::ts,0,x,_,h=>by simp only[List.getElem_cons_zero,List.set_cons_zero,YI] at *;omega
 |
  t::ts,i+1,x,hi,h=>by
  have:=zIg ts i x (by simpa using hi) (by simpa using h);simp only[List.set_cons_succ,YI];omega
theorem zNw {t:Z9} {i:Nat} {x:Z9} (hi:i<t.kids.length) (hf:Y9 t=true) (hx:Y9 x=true) (hk:(x.kind==1)=(t.kids[i].kind==1)) (hc:ZR x<=ZR t.kids[i]) (hd:Y4 x<=Y4 t.kids[i]):Y9 (Y3 t i x)=true/\ZR (Y3 t i x)<=ZR t/\Y4 (Y3 t i x)<=Y4 t:=by
 obtain⟨k,s,c,ts⟩:=t;simp only[Y3,Z9.kind,Z9.text,Z9.cols,Z9.kids] at *;rw[Y9] at hf ⊢;simp only[Bool.and_eq_true,List.length_set] at hf ⊢;have h1:=zFu ts i x hi;have h2:=zIg ts i x hi hd;exact⟨⟨hf.1,zJn k ts i x hi hf.2 hx hk⟩,by rw[ZR,ZR];omega,by rw[Y4,Y4];omega⟩
theorem zP0:(p:List Int)->(t:Z9)->(l:List Z9)->(ZP t p).2=true->Y9 t=true->t.kind=1->Y9 (Z7 l)=true->ZR (Z7 l)<=ZR (ZP t p).1->Y4 (Z7 l)<=Y4 (ZP t p).1->(ZV t p l).kind=1/\Y9 (ZV t p l)=true/\ZR (ZV t p l)<=ZR t/\Y4 (ZV t p l)<=Y4 t
 |[],t,l,_,hf,hk,hl,hc,hd=>⟨rfl,hl,hc,hd⟩
 |[_],t,l,h,_,_,_,_,_=>by simp[ZP] at h
 |
  i::k::p,t,l,h,hf,hk,hl,hc,hd=>by
  obtain⟨hi,aa,he⟩:=WK t i k p h;rw[he] at h hc hd;have f1:=VL hf hi.2;rw[<-Yi hi.2,hk] at f1;have f2:=VL f1.1 aa.2;rw[<-Yi aa.2,f1.2] at f2;obtain⟨g1,g2,g3,g4⟩:=zP0 p _ l h f2.1 (by have:=f2.2;simpa using this) hl hc hd;have e1:ZV t (i::k::p) l=Y3 t i.toNat (Y3 (ZZ t i) k.toNat (ZV (ZZ (ZZ t i) k) p l)):=by rw[ZV]
  rw[e1];obtain⟨r1,r2,r3⟩:=zNw (t:=ZZ t i) (i:=k.toNat) (x:=ZV (ZZ (ZZ t i) k) p l) aa.2 f1.1 g2 (by rw[<-Yi aa.2,f2.2,g1];rfl) (by rw[<-Yi aa.2];exact g3) (by rw[<-Yi aa.2];exact g4);obtain⟨q1,q2,q3⟩:=zNw (t:=t) (i:=i.toNat) (x:=Y3 (ZZ t i) k.toNat (ZV (ZZ (ZZ t i) k) p l)) hi.2 hf r1 (by rw[<-Yi hi.2];rfl) (by rw[<-Yi hi.2];exact r2) (by rw[<-Yi hi.2];exact r3);exact⟨hk,q1,q2,q3⟩
theorem zJq:(p:List Int)->(t:Z9)->(ZP t p).2=true->Y4 (ZP t p).1<=Y4 t
 |[],t,_=>Qi _
 |[_],t,h=>by simp[ZP] at h
 |
  i::k::p,t,h=>by
  obtain⟨hi,hk,he⟩:=WK t i k p h;rw[he] at h ⊢;have h1:=zJq p _ h;have h2:=zFe hi.2;rw[<-Yi hi.2] at h2;have h3:=zFe hk.2;rw[<-Yi hk.2] at h3;omega
theorem Tu {t:Z9} {q:List Int} {its l:List Z9} (hv:ZU t=true) (hf:(ZP t q).2=true) (hi:its=(ZP t q).1.kids) (h:l.Sublist its):ZU (ZV t q l)=true:=by
 obtain⟨v1,v2,v3,v4⟩:=Yb hv;have hr:=Rf hv hf;have f:=(Rc q t hf v3 v2).1;rw[hr,<-hi] at f;obtain⟨s1,s2,s3⟩:=zPq h f;have e:Z7 its=(ZP t q).1:=by rw[hi,<-hr]
 rw[e] at s2 s3;obtain⟨g1,g2,g3,g4⟩:=zP0 q t l hf v3 v2 s1 s2 s3;unfold ZU;simp only[Bool.and_eq_true,decide_eq_true_eq,g1,g2];exact⟨⟨⟨rfl,trivial⟩,by omega⟩,by omega⟩
theorem zMz {t:Z9} {q:List Int} {its l:List Z9} (hv:ZU t=true) (hf:(ZP t q).2=true) (hi:its=(ZP t q).1.kids) (h:l.Sublist its):ZU (Z7 l)=true:=by
 obtain⟨v1,v2,v3,v4⟩:=Yb hv;have hr:=Rf hv hf;have f:=(Rc q t hf v3 v2).1;rw[hr,<-hi] at f;obtain⟨s1,s2,s3⟩:=zPq h f;have e:Z7 its=(ZP t q).1:=by rw[hi,<-hr]
 rw[e] at s2 s3;have:=SV t q;have:=zJq q t hf;unfold ZU;simp only[Bool.and_eq_true,decide_eq_true_eq,s1];exact⟨⟨⟨rfl,trivial⟩,by omega⟩,by omega⟩
theorem zTp {t:Z9} {op:ZL} {l:List Z9} (hv:ZU t=true) (hf:(ZP t op.row).2=true) (ho:Zb op=true) (hc:ZH (ZP t op.row).1.kids op=(l,0)) (aa:ZU (ZV t op.row l)=true):Zw t op=(ZV t op.row l,0):=by
 unfold Zw;rw[TY hv hf];simp only[hc];rw[if_neg (by simp[hv]),if_neg (by simp[ho]),if_neg (by simp),if_neg (by simp),if_neg (by simp[aa])]
theorem UC {t m:Z9} {p mk pos:List Int} {op:ZL} (hv:ZU t=true) (h:Zw t op=(m,0)):WJ t p mk [op] pos=(⟨[op],p,mk,pos,[]⟩,0)/\YB t [op]=(m,0):=by
 have e:YB t [op]=(m,0):=by
  unfold YB YF;rw[if_neg (by simp[hv]),h,if_neg (by simp)];rfl
 refine⟨?_,e⟩;unfold WJ;rw[e,if_pos rfl]
theorem TB {its:List Z9} {a:Nat} (ha:a<its.length):[its[a]].Sublist its:=List.singleton_sublist.2 (List.getElem_mem ha)
theorem zOh (its:List Z9) (a:Nat):(Zn its a (a+1) []).Sublist its:=by
 unfold Zn;rw[List.append_nil];have h:=List.Sublist.append (List.Sublist.refl (its.take a)) (List.drop_sublist_drop_left its (Nat.le_succ a));rwa[List.take_append_drop] at h
theorem zLi:Zz.toList.isEmpty=true:=by rw[show Zz.toList=[] by unfold Zz ByteArray.toList ByteArray.toList.loop;rfl];rfl
theorem zPf {t:Z9} {q:List Int} {its:List Z9} {a s:Nat} (hv:ZU t=true) (hf:(ZP t q).2=true) (hi:its=(ZP t q).1.kids) (ha:a<its.length) (hs:s<its[a].kids.length) (he:its[a].kids[s]=Z7 []):Zw t (YL ⟨q,(a:Int),(s:Int),its[a]⟩)=(ZV t q (Zn its a (a+1) []),0):=by
 have hk:ZZ its[a] (s:Int)=Z7 []:=by rw[Yi (by simpa using hs)];simpa using he
 have aa:Zj its[a] s []=its[a]:=by
  unfold Zj Y3;rw[<-he,List.set_getElem_self];cases its[a];rfl
 have ae:YL ⟨q,(a:Int),(s:Int),its[a]⟩=⟨4,q,(a:Int),0,[its[a]],(s:Int),Zz,Zz⟩:=by
  unfold YL;simp only[hk,Int.toNat_natCast,aa];rfl
 rw[ae];have h:=zTp (t:=t) (op:=⟨4,q,(a:Int),0,[its[a]],(s:Int),Zz,Zz⟩) (l:=Zn its a (a+1) []) hv hf ?_ ?_ (Tu hv hf hi (zOh its a))
 ·exact h
 ·unfold Zb Ye;rw[if_neg (by simp),if_pos (by simp)];simp only[Bool.and_eq_true,List.headD_cons];refine⟨by simp,⟨rfl,zMz hv hf hi (TB ha),decide_eq_true (show (0:Int)<=(s:Int) by omega),decide_eq_true (show (s:Int)<(its[a].kids.length:Int) by omega),decide_eq_true (show (ZZ its[a] (s:Int)).kids.length=0 by rw[hk];rfl)⟩,zLi,zLi⟩
 show ZH (ZP t q).1.kids _=_;rw[<-hi];have hg:its.getD a ZN=its[a]:=by rw[List.getD_eq_getElem?_getD,List.getElem?_eq_getElem ha];rfl
 unfold ZH Y7;simp only[Int.toNat_natCast,hg,hk,List.headD_cons];rw[if_neg (by simp;omega),if_neg (by decide),if_neg (by decide),if_neg (by decide),if_pos (by trivial),if_neg ?_]
 ·rw[show ((a:Int)+1).toNat=a+1 by omega];rfl
 rintro (h|h|h)
 ·omega
 ·exact h rfl
 rw[show (Z7 ([]:List Z9)).kids=[] from rfl,aa,(SN _ _).2 rfl] at h;cases h
theorem zSw (t:Z9) (i:Nat) (a b:Z9):Y3 (Y3 t i a) i b=Y3 t i b:=by
 show Z9.mk _ _ _ ((t.kids.set i a).set i b)=Z9.mk _ _ _ (t.kids.set i b);rw[List.set_set];rfl
theorem zTd {t:Z9} {i:Int} (h:i.toNat<t.kids.length):Y3 t i.toNat (ZZ t i)=t:=by
 rw[Yi h];obtain⟨k,s,c,ts⟩:=t;have h':i.toNat<ts.length:=h;have e:ts.set i.toNat (ts[i.toNat]'h')=ts:=List.set_getElem_self h';exact congrArg (Z9.mk k s c) e
theorem zU8:(q:List Int)->(t:Z9)->(a b:List Z9)->(ZP t q).2=true->ZV (ZV t q a) q b=ZV t q b
 |[],t,a,b,_=>rfl
 |[_],t,a,b,h=>by simp[ZP] at h
 |
  i::k::q,t,a,b,h=>by
  obtain⟨hi,hk,he⟩:=WK t i k q h;rw[he] at h;rw[ZV,ZV,ZV,VX hi.2,VX hk.2,zU8 q _ a b h,zSw,zSw]
theorem zT6:(q:List Int)->(t:Z9)->(l:List Z9)->(ZP t q).2=true->(ZP t q).1=Z7 l->ZV t q l=t
 |
  [],t,l,_,h=>by
  show Z7 l=t;exact h.symm
 |[_],t,l,h,_=>by simp[ZP] at h
 |
  i::k::q,t,l,h,hl=>by
  obtain⟨hi,hk,he⟩:=WK t i k q h;rw[he] at h hl;rw[ZV,zT6 q _ l h hl,zTd hk.2,zTd hi.2]
def posW (rr:List Int) (ra:Int) (o:Option Int):List Int:=match o with
 |some s=>rr++[ra,s,0]
 |none=>rr++[ra+1]
theorem zSu (t:Z9) (p m:List Int) (item:Z9) (slot:Int):((ZU t&&Zb (Yj [] 0 0 [item] slot))=false->TN t p m item slot=(ZB,1)) /\
  ((ZU t&&Zb (Yj [] 0 0 [item] slot))=true->(ZK t p m).2≠0->TN t p m item slot=(ZB,(ZK t p m).2)) /\
  (∀rr ra rb,(ZU t&&Zb (Yj [] 0 0 [item] slot))=true->ZK t p m=((rr,ra,rb),0)->TN t p m item slot=YE t p m [Yj rr ra (rb-ra) [item] slot] (posW rr ra (WA item.kids 0 slot (decide (rb-ra=0)))) []):=by
 refine⟨fun h=>?_,fun h h2=>?_,fun rr ra rb h h1=>?_⟩
 ·unfold TN;rw[if_pos h]
 ·unfold TN;rw[if_neg (by simp[h]),if_pos h2]
 unfold TN;rw[if_neg (by simp[h]),h1];simp only;rw[if_neg (by simp)];rfl
theorem zTx {ks:List Z9} {k:Nat} (hk:k<ks.length) (slot:Int) (z:Bool):WA (ks.drop k) (k:Int) slot z=if ks[k].kids.length=0/\((k:Int)≠slot\/z=true) then some (k:Int) else WA (ks.drop (k+1)) ((k+1:Nat):Int) slot z:=by
 rw[List.drop_eq_getElem_cons hk,WA];rfl
theorem zUy {ks:List Z9} {k:Nat} (hk:ks.length<=k) (slot i:Int) (z:Bool):WA (ks.drop k) i slot z=none:=by
 rw[List.drop_of_length_le hk,WA]
theorem zVh:∀(ks:List Z9) (i slot:Int) (z:Bool) (s:Int),WA ks i slot z=some s->i<=s/\s<i+ks.length:=by
 intro ks;induction ks with
 |nil=>intro i slot z s h;simp[WA] at h
 |
  cons k ks ih =>
  intro i slot z s h;rw[WA] at h;split at h
  ·injection h with h;subst h;simp;omega
  have:=ih _ _ _ _ h;simp;omega
theorem zUx {item:Z9} {s:Nat} (hs:s<item.kids.length) (l:List Z9):ZZ (Zj item s l) (s:Int)=Z7 l:=by
 have aa:(Zj item s l).kids.length=item.kids.length:=by unfold Zj Y3;simp[Z9.kids]
 rw[Yi (by rw[aa];simpa using hs)];simp only[Int.toNat_natCast];unfold Zj Y3;simp[Z9.kids]
theorem Sd {t M:Z9} {op:ZL} (hv:ZU t=true) (h:YB t [op]=(M,0)):Zw t op=(M,0):=by
 unfold YB at h;rw[if_neg (by simp[hv]),YF] at h;by_cases h0:(Zw t op).2=0
 ·rw[if_neg (by simp[h0]),YF] at h;have h1:=congrArg Prod.fst h;simp only at h1;exact Prod.ext h1 h0
 rw[if_pos h0] at h;have h1:=congrArg Prod.snd h;exact absurd h1 h0
theorem er_T (t:Z9) (q:List Int) (o:Int) (b:Bool) {its:List Z9} (hv:ZU t=true) (hf:(ZP t q).2=true) (hi:its=(ZP t q).1.kids):We t (q++[o]) [] b =
  if 0<=(if b then o-1 else o)/\(if b then o-1 else o)<(its.length:Int) then
   (if Yc (Zc its (if b then o-1 else o).toNat).kids 0 (-1)=false then WJ t (q++[o]) [] [Zf q (if b then o-1 else o) [Zc its (if b then o-1 else o).toNat]] (q++[if b then o-1 else o]) else Xa t (q++[o]) [] b)
  else match Y5 t (q++[o]) with
   |some x=>if Yc x.item.kids 0 x.own=false then WJ t (q++[o]) [] [YL x] (x.row++[if b then x.at_ else x.at_+(YL x).n]) else Xa t (q++[o]) [] b
   |none=>Xa t (q++[o]) [] b:=by
 unfold We;have e1:(q++[o]).dropLast=q:=by simp
 have e2:(q++[o]).getLastD 0=o:=by simp
 rw[e1,e2,TY hv hf];simp only[<-hi]<;>rfl
theorem QX {t m:Z9} {ops:List ZL} (h:YB t ops=(m,0)):ZU t=true/\YF t ops=(m,0):=by
 unfold YB at h;split at h
 ·injection h with _ h;simp at h
 rename_i h1;exact⟨by simpa using h1,h⟩
def QV (ops:List ZL):Prop:=ops.length<=1000/\∀k (hk:k<ops.length),ZQ ops[k].nodes<=100000
theorem zRt {l bs:List Z9} {a b:Nat} (aa:a<=b) (hb:b<=l.length):Zn (Zn l a b bs) a (a+bs.length) ((l.take b).drop a)=l/\((Zn l a b bs).take (a+bs.length)).drop a=bs:=by
 have hl:(l.take a).length=a:=by simp;omega
 have h1:(l.take a++bs).length=a+bs.length:=by rw[List.length_append,hl]
 have e1:(Zn l a b bs).take (a+bs.length)=l.take a++bs:=by
  unfold Zn;rw[<-h1];exact List.take_left
 have e2:(Zn l a b bs).drop (a+bs.length)=l.drop b:=by
  unfold Zn;rw[<-h1];exact List.drop_left
 have e3:(Zn l a b bs).take a=l.take a:=by
  unfold Zn;rw[List.append_assoc];have:=List.take_left (l₁:=l.take a) (l₂:=bs++l.drop b);rwa[hl] at this
 refine⟨?_,?_⟩
 ·show (Zn l a b bs).take a++(l.take b).drop a++(Zn l a b bs).drop (a+bs.length)=l;rw[e2,e3];have h4:l.take a=(l.take b).take a:=by rw[List.take_take,Nat.min_eq_left aa]
  rw[h4,List.take_append_drop,List.take_append_drop]
 rw[e1];have:=List.drop_left (l₁:=l.take a) (l₂:=bs);rwa[hl] at this
theorem zUh (l:List Z9):Wj l l=true:=by
 unfold Wj;rw[((zKm l l).2 rfl).2];simp
theorem zU4 {a b:List Z9} (h:Wj a b=true):a=b:=by
 unfold Wj at h;simp only[Bool.and_eq_true,beq_iff_eq] at h;exact(zKm a b).1 h
theorem zS6 {l bs:List Z9} {x:Z9} {a b:Nat} (ha:a<=l.length):(Zn l a b (x::bs)).getD a ZN=x:=by
 have h:=QL (l:=l) (bs:=x::bs) (a:=a) (b:=b) (i:=0) ha (by simp);simpa[Zc] using h
theorem Sr {l l':List Z9} {op:ZL} (hfl:Y9 (Z7 l)=true) (hf:Zb op=true) (h:ZH l op=(l',0)):Zb (Zu op)=true/\ZH l' (Zu op)=(l,0):=by
 obtain⟨k,row,at_,n,nodes,slot,old,text⟩:=op;unfold ZH at h;split at h
 ·injection h with _ h;simp at h
 rename_i hr;simp only[not_or,Int.not_lt] at hr;obtain⟨a,rfl⟩:∃a:Nat,at_=a:=⟨at_.toNat,by have:=hr.1;omega⟩;simp only[Int.toNat_natCast] at h hr;by_cases h1:k=1
 ·subst h1;rw[if_pos rfl] at h;injection h with h _
  refine⟨by simpa[Zb,Zu] using hf,?_⟩;obtain⟨b1,b2⟩:=zRt (l:=l) (bs:=nodes) (a:=a) (b:=a) (Qi _) (by omega);rw[h] at b1 b2;have ag:l'.length=l.length+nodes.length:=by rw[<-h,YM (by omega)];omega
  unfold ZH Zu Y7;simp only[if_true];rw[if_neg (by simp;omega),if_neg (by decide),show ((a:Int)+(nodes.length:Int)).toNat=a+nodes.length by omega,Int.toNat_natCast,b2,if_pos (zUh _)];have e:(l.take a).drop a=[]:=by simp
  rw[e] at b1;rw[b1]
 rw[if_neg h1] at h;by_cases h2:k=2
 ·subst h2;rw[if_pos rfl] at h;simp only[Y7] at hr;rw[if_neg (by decide),if_pos trivial] at hr;rw[show ((a:Int)+(nodes.length:Int)).toNat=a+nodes.length by omega] at h;split at h;rotate_left
  ·injection h with _ h;simp at h
  rename_i hs;injection h with h _
  refine⟨by simpa[Zb,Zu] using hf,?_⟩;obtain⟨b1,b2⟩:=zRt (l:=l) (bs:=[]) (a:=a) (b:=a+nodes.length) (by omega) (by omega);rw[h] at b1;have ag:l'.length=l.length-nodes.length:=by rw[<-h,YM (by omega)];simp;omega
  unfold ZH Zu Y7;simp only;rw[if_neg (by simp;omega),if_pos (by decide),Int.toNat_natCast];rw[zU4 hs] at b1;simp only[List.length_nil,Nat.add_zero] at b1;rw[b1]
 rw[if_neg h2] at h;by_cases h3:k=3
 ·subst h3;rw[if_pos rfl] at h;simp only[Y7] at hr;rw[if_neg (by decide),if_neg (by decide),if_pos trivial] at hr;have ae:=hf;unfold Zb at ae;simp only[Bool.and_eq_true,decide_eq_true_eq] at ae;rw[if_neg (by decide),if_pos (by decide)] at ae;simp only[Bool.and_eq_true,decide_eq_true_eq] at ae;obtain⟨aI,ht,aG,aF⟩:=ae;obtain⟨tp,rfl,aC,aB,aA⟩:=R9 ht;obtain⟨n',rfl⟩:∃n':Nat,n=n':=⟨n.toNat,by omega⟩;obtain⟨s',rfl⟩:∃s':Nat,slot=s':=⟨slot.toNat,by omega⟩;rw[show ((a:Int)+(n':Int)).toNat=a+n' by omega] at h;injection h with h _
  have az:s'<tp.kids.length:=by omega
  obtain⟨af,ah⟩:∃af,(l.take (a+n')).drop a=af:=⟨_,rfl⟩;have aJ:af.length=n':=by rw[<-ah];simp;omega
  rw[ah] at h;simp only[List.headD_cons,Int.toNat_natCast] at h;obtain⟨b1,b2⟩:=zRt (l:=l) (bs:=[Zj tp s' af]) (a:=a) (b:=a+n') (by omega) (by omega);rw[h,ah] at b1;have ag:l'.length=l.length-n'+1:=by rw[<-h,YM (by omega)];simp;omega
  have hg:l'.getD a ZN=Zj tp s' af:=by rw[<-h];exact zS6 (by omega)
  have aK:(Zj tp s' af).kids.length=tp.kids.length:=by
   show (tp.kids.set s' (Z7 af)).length=_;simp
  refine⟨by simpa[Zb,Zu] using hf,?_⟩;unfold ZH Zu Y7;simp only;rw[if_neg (by simp;omega),if_neg (by decide),if_neg (by decide),if_neg (by decide),if_pos (by decide),Int.toNat_natCast,hg,zUx az af,aK];have aD:(Z7 af).kids=af:=rfl;rw[aD,aJ,if_neg ?_,show ((a:Int)+1).toNat=a+1 by omega]
  ·simp only[List.length_cons,List.length_nil,Nat.zero_add] at b1;rw[b1]
  simp only[List.headD_cons,Int.toNat_natCast,not_or];refine⟨by omega,by simp,?_⟩;rw[(SN _ _).2 rfl];simp
 rw[if_neg h3] at h;by_cases h4:k=4
 ·subst h4;rw[if_pos rfl] at h;simp only[Y7] at hr;rw[if_neg (by decide),if_neg (by decide),if_neg (by decide)] at hr;split at h
  ·injection h with _ h;simp at h
  rename_i hc;injection h with h _
  simp only[not_or] at hc;obtain⟨hc1,ax,av⟩:=hc;have ae:=hf;unfold Zb at ae;simp only[Bool.and_eq_true,decide_eq_true_eq] at ae;rw[if_neg (by decide),if_pos (by decide)] at ae;simp only[Bool.and_eq_true,decide_eq_true_eq] at ae;obtain⟨aI,ht,aG,aF⟩:=ae;obtain⟨tp,rfl,aC,aB,aA⟩:=R9 ht;obtain⟨s',rfl⟩:∃s':Nat,slot=s':=⟨slot.toNat,by omega⟩;obtain⟨aa,aN⟩:∃aa,(ZZ (l.getD a ZN) (s':Int)).kids=aa:=⟨_,rfl⟩;rw[aN] at h ax av;have aH:n=(aa.length:Int):=by
   have:=Decidable.byContradiction ax;exact this.symm
  have aM:l.getD a ZN=Zj tp s' aa:=by
   have h9:Yv (l.getD a ZN) (Zj ([tp].headD ZN) ((s':Int)).toNat aa)=true:=by simpa using av
   exact(SN _ _).1 h9
  have aj:a<l.length:=by omega
  rw[show ((a:Int)+1).toNat=a+1 by omega] at h;obtain⟨b1,b2⟩:=zRt (l:=l) (bs:=aa) (a:=a) (b:=a+1) (by omega) (by omega);rw[h] at b1 b2;have ag:l'.length=l.length-1+aa.length:=by rw[<-h,YM (by omega)];omega
  refine⟨by simpa[Zb,Zu] using hf,?_⟩;unfold ZH Zu Y7;simp only;rw[aH,if_neg (by simp;omega),if_neg (by decide),if_neg (by decide),if_pos (by decide),show ((a:Int)+(aa.length:Int)).toNat=a+aa.length by omega,Int.toNat_natCast,b2];simp only[List.headD_cons,Int.toNat_natCast];rw[<-aM];have e:(l.take (a+1)).drop a=[l.getD a ZN]:=by
   rw[List.take_succ_eq_append_getElem aj,List.getD_eq_getElem?_getD,List.getElem?_eq_getElem aj];have:=List.drop_left (l₁:=l.take a) (l₂:=[l[a]]);have au:(l.take a).length=a:=by simp;omega
   rw[au] at this;exact this
  rw[e] at b1;rw[b1]
 rw[if_neg h4] at h;simp only[Y7] at hr;rw[if_neg h1,if_neg h2,if_neg h3] at hr;split at h;rotate_left
 ·injection h with _ h;simp at h
 rename_i hc;injection h with h _
 have aL:k=5:=by
  unfold Zb at hf;simp only[h1,h2,h3,h4,or_self,if_false] at hf;by_cases h5:k=5
  ·exact h5
  rw[if_neg h5] at hf;cases hf
 subst aL;have aj:a<l.length:=by omega
 obtain⟨x,hx⟩:∃x,l.getD a ZN=x:=⟨_,rfl⟩;rw[hx] at h hc;obtain⟨xk,xt,xc,xs⟩:=x;simp only[Z9.kind,Z9.text,Z9.cols,Z9.kids] at h hc;rw[show ((a:Int)+1).toNat=a+1 by omega] at h;have ak:xt=old:=QM.1 (by simpa using hc.2);obtain⟨b1,b2⟩:=zRt (l:=l) (bs:=[.mk xk text xc xs]) (a:=a) (b:=a+1) (by omega) (by omega);rw[h] at b1;have ag:l'.length=l.length:=by rw[<-h,YM (by omega)];simp;omega
 have hg:l'.getD a ZN=.mk xk text xc xs:=by rw[<-h];exact zS6 (by omega)
 have aO:Zb (Zu ⟨5,row,(a:Int),n,nodes,slot,old,text⟩)=true:=by
  unfold Zb Zu at *;simp only[Bool.and_eq_true] at hf ⊢;rw[if_neg (by decide),if_neg (by decide),if_pos (by decide)] at hf;rw[if_neg (by decide),if_neg (by decide),if_pos (by decide)];simp only[if_true,Bool.and_eq_true] at hf ⊢;refine⟨?_,hf.2⟩;have h9:=hf.1;simp only[Bool.not_eq_true',beq_eq_false_iff_ne] at h9 ⊢;exact fun e=>h9 e.symm
 refine⟨aO,?_⟩;unfold ZH Zu Y7;simp only;rw[if_neg (by simp;omega),if_neg (by decide),if_neg (by decide),if_neg (by decide),if_neg (by decide),Int.toNat_natCast,hg];simp only[Z9.kind,Z9.text,Z9.cols,Z9.kids,if_true];rw[if_pos ⟨hc.1,by simp⟩,show ((a:Int)+1).toNat=a+1 by omega];have e:(l.take (a+1)).drop a=[l.getD a ZN]:=by
  rw[List.take_succ_eq_append_getElem aj,List.getD_eq_getElem?_getD,List.getElem?_eq_getElem aj];have:=List.drop_left (l₁:=l.take a) (l₂:=[l[a]]);have au:(l.take a).length=a:=by simp;omega
  rw[au] at this;exact this
 rw[e,hx] at b1;have ay:Z9.mk xk old xc xs=Z9.mk xk xt xc xs:=by rw[<-ak]
 simp only[List.length_cons,List.length_nil,Nat.zero_add] at b1;rw[<-ay] at b1;rw[b1]
theorem zSc {t m:Z9} {op:ZL} (h:Zw t op=(m,0)):ZU t=true/\ZU m=true/\Zb op=true/\(ZP t op.row).2=true/\∃l',ZH (ZP t op.row).1.kids op=(l',0)/\m=ZV t op.row l'/\ZP m op.row=(Z7 l',true):=by
 unfold Zw at h;split at h
 ·injection h with _ h;simp at h
 rename_i h1;split at h
 ·injection h with _ h;simp at h
 rename_i h2;split at h
 ·rename_i h3;injection h with _ h;exact absurd h h3
 rename_i h3;split at h
 ·rename_i h4;injection h with _ h;exact absurd h h4
 rename_i h4;split at h
 ·injection h with _ h;simp at h
 rename_i h5;injection h with h6 _
 have e3:(ZM t op.row).2=0:=Decidable.byContradiction h3;have e4:(ZH (ZM t op.row).1.kids op).2=0:=Decidable.byContradiction h4;have hv:ZU t=true:=by simpa using h1
 obtain⟨f1,f2⟩:=zGx hv e3;rw[f2] at h6 h5 e4;refine⟨hv,by rw[<-h6];simpa using h5,by simpa using h2,f1,_,(by rw[<-e4]:ZH (ZP t op.row).1.kids op=((ZH (ZP t op.row).1.kids op).1,0)),h6.symm,?_⟩;rw[<-h6];have h9:=zR7 op.row t (ZH (ZP t op.row).1.kids op).1 [] f1;rw[List.append_nil] at h9;rw[h9];rfl
theorem zVo {t m:Z9} {op:ZL} (h:Zw t op=(m,0)):Zw m (Zu op)=(t,0):=by
 obtain⟨hv,ah,aj,hf,l',hc,hm,ag⟩:=zSc h;have ae:=Rf hv hf;have af:=Yb hv;have ak:Y9 (Z7 (ZP t op.row).1.kids)=true:=by rw[<-ae];exact(Rc op.row t hf af.2.2.1 af.2.1).1
 obtain⟨i1,i2⟩:=Sr ak aj hc;have hr:(Zu op).row=op.row:=rfl;have aa:ZV m op.row (ZP t op.row).1.kids=t:=by
  rw[hm,zU8 op.row t _ _ hf];exact zT6 op.row t _ hf ae
 have h9:=zTp (t:=m) (op:=Zu op) (l:=(ZP t op.row).1.kids) ah (by rw[hr,ag]) i1 (by rw[hr,ag];exact i2) (by rw[hr,aa];exact hv);rw[hr,aa] at h9;exact h9
def WY (ops:List ZL):List ZL:=(ops.map Zu).reverse
theorem UL:∀(a b:List ZL) (t m:Z9),YF t a=(m,0)->YF t (a++b)=YF m b
 |
  [],b,t,m,h=>by
  simp only[YF] at h;injection h with h _
  rw[h];rfl
 |
  op::a,b,t,m,h=>by
  simp only[YF,List.cons_append] at h ⊢;by_cases he:(Zw t op).2=0
  ·rw[if_neg (by simp[he])] at h ⊢;exact UL a b _ m h
  rw[if_pos he] at h;injection h with _ h
  exact absurd h he
theorem UM:∀(ops:List ZL) (t m:Z9),YF t ops=(m,0)->YF m (WY ops)=(t,0)
 |
  [],t,m,h=>by
  simp only[YF] at h;injection h with h _
  rw[h];rfl
 |
  op::ops,t,m,h=>by
  simp only[YF] at h;by_cases he:(Zw t op).2=0
  ·rw[if_neg (by simp[he])] at h;have ih:=UM ops _ m h;have e:WY (op::ops)=WY ops++[Zu op]:=by simp[WY]
   have ha:Zw t op=((Zw t op).1,0):=by rw[<-he]
   have hi:=zVo ha;rw[e,UL _ _ _ _ ih,YF,hi,if_neg (by simp),YF]
  rw[if_pos he] at h;injection h with _ h
  exact absurd h he
theorem Sc {t m:Z9} {ops:List ZL} (h:YB t ops=(m,0)) (aa:ZU m=true):YB m (WY ops)=(t,0):=by
 obtain⟨hv,hg⟩:=QX h;unfold YB;rw[if_neg (by simp[aa])];exact UM ops t m hg
theorem zUa:∀(ops:List ZL) (t m:Z9),ZU t=true->YF t ops=(m,0)->ZU m=true
 |
  [],t,m,hv,h=>by
  simp only[YF] at h;injection h with h _
  rw[<-h];exact hv
 |
  op::ops,t,m,hv,h=>by
  simp only[YF] at h;by_cases he:(Zw t op).2=0
  ·rw[if_neg (by simp[he])] at h;have ha:Zw t op=((Zw t op).1,0):=by rw[<-he]
   exact zUa ops _ m (zSc ha).2.1 h
  rw[if_pos he] at h;injection h with _ h
  exact absurd h he
theorem zVd {t:Z9} {q2:List Int} {i s o:Int} (hv:ZU t=true) (hp:ZO t (q2++[i,s]++[o])=true):Y9 (ZZ (ZP t q2).1 i)=true/\(ZZ (ZP t q2).1 i).kind≠1:=by
 obtain⟨h4,hi,hk,h7,_⟩:=QJ hp;have aa:=Yb hv;obtain⟨h1,h2⟩:=Rc q2 t h4 aa.2.2.1 aa.2.1;have f1:=VL h1 hi.2;rw[<-Yi hi.2,h2] at f1;exact⟨f1.1,by simpa using f1.2⟩
theorem zTl {it:Z9} (h:Y9 it=true):Zp it.kind it.cols it.kids.length=true:=by
 obtain⟨k,x,c,l⟩:=it;rw[Y9] at h;simp only[Bool.and_eq_true] at h;exact h.1.2
theorem UJ {it:Z9} (h:Y9 it=true) (hk:it.kind=11\/it.kind=10):it.cols=0/\it.kids.length=1:=by
 have h2:=zTl h;unfold Zp at h2;rw[if_neg (by omega)] at h2;by_cases hc:it.cols=0
 ·rw[if_neg (by simpa using hc),if_neg (by omega),if_neg (by omega),if_neg (by omega),if_neg (by omega),if_pos (by omega)] at h2;exact⟨hc,by simp at h2;omega⟩
 rw[if_pos hc] at h2;cases h2
def zT4 (t:Z9) (p m q2:List Int) (i o:Int) (it:Z9) (its:List Z9):Ze×Int :=
 YE t p m ((if o<(its.length:Int) then [Zf (q2++[i,0]) o (its.drop o.toNat)] else [])++[Yw q2 (i+1) [.mk it.kind it.text 0 [Z7 (its.drop o.toNat)]]]) (q2++[i+1,0,0]) []
theorem zSp (t:Z9) (p m:List Int):((ZK t p m).2≠0->VZ t p m=(ZB,(ZK t p m).2))/\((ZK t p m).2=0->Y5 t p=none->VZ t p m=(ZB,8)) /\
  (∀rr ra rb q2 i (s':Nat) it its o,ZK t p m=((rr,ra,rb),0)->Y5 t p=some ⟨q2,i,(s':Int),it⟩->p=q2++[i,(s':Int)]++[o]->(h:s'<it.kids.length)->it.kids[s']=Z7 its ->
   ((ra<rb\/(it.kind≠11/\it.kind≠10))->VZ t p m=(ZB,7)) /\
   (¬(ra<rb\/(it.kind≠11/\it.kind≠10))->s'=0/\VZ t p m=zT4 t p m q2 i o it its)):=by
 refine⟨fun h=>?_,fun h h1=>?_,fun rr ra rb q2 i s' it its o h h1 hp h2 h3=>⟨fun hc=>?_,fun hc=>?_⟩⟩
 ·unfold VZ;rw[if_pos h]
 ·unfold VZ;rw[if_neg (by simp[h]),h1]
 ·unfold VZ;rw[h,if_neg (by simp),h1];simp only;rw[if_pos hc]
 obtain⟨hv,af,_⟩:=Wt (t:=t) (p:=p) (m:=m) (by rw[h]);have aa:=af;rw[hp] at aa;have ha:=zUb hv aa;rw[<-hp,h1] at ha;obtain⟨g4,gi,gk,g7,go1,aj⟩:=QJ aa;obtain⟨f1,f2⟩:=zVd hv aa;have he:it=ZZ (ZP t q2).1 i:=by injection ha with ha;injection ha
 rw[<-he] at f1 f2 gk g7 aj;obtain⟨c1,c2⟩:=UJ f1 (by omega);have hs:s'=0:=by omega
 subst hs;have au:ZZ it ((0:Nat):Int)=Z7 its:=by rw[Yi (by simpa using h2)];exact h3
 rw[au] at g7 aj;have ae:ZM t (q2++[i,((0:Nat):Int)])=(Z7 its,0):=by rw[TY hv (R6 aa).1,g7]
 have av:o<=(its.length:Int):=by simpa[Z7,Z9.kids] using aj
 have ax:Yk t (q2++[i,((0:Nat):Int)]) o (its.length:Int)=(its.drop o.toNat,0):=by
  unfold Yk;rw[ae,if_neg (by simp),if_neg (by simp only[Z7,Z9.kids];omega)];simp[Z7,Z9.kids]
 have e2:p.getLastD 0=o:=by rw[hp];simp
 have ah:Zj it 0 (its.drop o.toNat)=.mk it.kind it.text 0 [Z7 (its.drop o.toNat)]:=by
  obtain⟨k,x,c,l⟩:=it;simp only[Z9.cols,Z9.kids] at c1 c2;subst c1
  match l,c2 with
  |[a],_=>rfl
 refine⟨rfl,?_⟩;unfold VZ zT4 WW;rw[h,if_neg (by simp),h1];simp only;rw[if_neg hc,e2,au];simp only[Z7,Z9.kids];have ag:Yk t (q2++[i,0]) o (its.length:Int)=(its.drop o.toNat,0):=ax;simp only[Int.toNat_natCast,Int.natCast_zero,ag];rw[show Zj it (Int.toNat 0) (its.drop o.toNat)=_ from ah];have e:(if (its.drop o.toNat).length=0 then [] else [Zf (q2++[i,0]) o (its.drop o.toNat)])=(if o<(its.length:Int) then [Zf (q2++[i,0]) o (its.drop o.toNat)] else []):=by
  by_cases ak:o<(its.length:Int)
  ·rw[if_pos ak,if_neg (by simp;omega)]
  rw[if_neg ak,if_pos (by simp;omega)]
 rw[e];rfl
def Va (z:Z9) (c s:Nat) (columns:Bool) (i:Nat):List Z9 :=
 (if columns=true/\i % c=s % c then [Z7 []] else [])++(if columns=false/\i=s / c*c+c-1 then List.replicate c z else [])
def Zi (z:Z9) (c s:Nat) (columns:Bool) (ts:List Z9):Nat->List Z9
 |0=>[]
 |k+1=>Zi z c s columns ts k++(ts.getD k ZN::Va z c s columns k)
theorem zVf (c s:Nat) (hc:0<c) (columns:Bool) (ts:List Z9):∀n k,n+k=ts.length->Zi (Z7 []) c s columns ts k++RX (c:Int) (s:Int) columns (ts.drop k) (k:Int)=Zi (Z7 []) c s columns ts ts.length:=by
 intro n;induction n with
 |
  zero =>
  intro k hk;have e:k=ts.length:=by omega
  subst e;rw[List.drop_length,RX,List.append_nil]
 |
  succ n ih =>
  intro k hk;have aa:k<ts.length:=by omega
  rw[<-ih (k+1) (by omega),List.drop_eq_getElem_cons aa,RX,Zi];have e1:ts.getD k ZN=ts[k]:=by rw[List.getD_eq_getElem?_getD,List.getElem?_eq_getElem aa];rfl
  have e2:((k:Int).tmod (c:Int)=(s:Int).tmod (c:Int))↔(k % c=s % c):=by
   rw[<-Int.ofNat_tmod,<-Int.ofNat_tmod];omega
  have e3:((k:Int)=(s:Int).tdiv (c:Int)*(c:Int)+(c:Int)-1)↔(k=s / c*c+c-1):=by
   rw[<-Int.ofNat_tdiv];generalize hq:s / c=q;have e:((q*c:Nat):Int)=(q:Int)*(c:Int):=Int.natCast_mul q c;rw[<-e];omega
  rw[e1];simp only[e2,e3,Int.toNat_natCast,Va,List.append_assoc,List.cons_append,List.nil_append];rfl
theorem zSr (c s:Nat) (hc:0<c) (columns:Bool) (ts:List Z9):RX (c:Int) (s:Int) columns ts 0=Zi (Z7 []) c s columns ts ts.length:=by
 have h:=zVf c s hc columns ts ts.length 0 (by omega);simpa[Zi] using h
theorem zSt (z:Z9) (c s:Nat) (columns:Bool) (ts:List Z9) (n:Nat):∀k,k<=n->Zi z c s columns (ts.take n) k=Zi z c s columns ts k
 |0,_=>rfl
 |
  k+1,h=>by
  rw[Zi,Zi,zSt z c s columns ts n k (by omega)];congr 2;rw[List.getD_eq_getElem?_getD,List.getD_eq_getElem?_getD,List.getElem?_take,if_pos (by omega)]
theorem UA {c d:Nat} (hd:d<c) (k:Nat):(k+1+d) / c=(k+d) / c+(if k % c=c-1-d then 1 else 0):=by
 have h:=Nat.div_add_mod k c;have hb:=Nat.mod_lt k (show 0<c by omega);generalize k / c=a at *;generalize k % c=b at *;have aa:∀x,x<2*c->(c*a+x) / c=a+(if c<=x then 1 else 0):=fun x hx=>by
  rw[Nat.mul_add_div (by omega)];by_cases h1:c<=x
  ·rw[if_pos h1,show x / c=1 from Nat.div_eq_of_lt_le (by omega) (by omega)]
  rw[if_neg h1,show x / c=0 from Nat.div_eq_of_lt (by omega)]
 rw[<-h,show c*a+b+1+d=c*a+(b+1+d) by omega,show c*a+b+d=c*a+(b+d) by omega,aa _ (by omega),aa _ (by omega)];split<;>split<;>split<;>omega
theorem zTq (z:Z9) (c s:Nat) (hc:0<c) (ts:List Z9):∀k,(Zi z c s true ts k).length=k+(k+(c-1-s % c)) / c
 |0=>by simp[Zi];exact(Nat.div_eq_of_lt (by omega)).symm
 |
  k+1=>by
  have hm:=Nat.mod_lt s hc;rw[Zi,List.length_append,zTq z c s hc ts k,UA (by omega) k];simp only[List.length_cons,Va,List.length_append];rw[show c-1-(c-1-s % c)=s % c by omega];by_cases h:k % c=s % c
  ·simp[h];omega
  simp[h];omega
theorem zTr (z:Z9) (c s:Nat) (hc:0<c) (ts:List Z9):∀k,k<=s->(Zi z c s false ts k).length=k
 |0,_=>rfl
 |
  k+1,h=>by
  have hm:=Nat.div_add_mod s c;have hl:=Nat.mod_lt s hc;have hk:k≠s / c*c+c-1:=by rw[Nat.mul_comm];omega
  rw[Zi,List.length_append,zTr z c s hc ts k (by omega)];simp[Va,hk]
def Xp (c s:Nat) (columns:Bool):Nat:=if columns then s / c*(c+1)+s % c else s
theorem zVb (c s:Nat) (hc:0<c) (columns:Bool) (ts:List Z9) (hs:s<=ts.length):(RX (c:Int) (s:Int) columns (ts.take s) 0).length=Xp c s columns:=by
 rw[zSr c s hc columns];have e:(ts.take s).length=s:=by simp;omega
 rw[e,zSt (Z7 []) c s columns ts s s (Qi _)];cases columns
 ·rw[zTr _ c s hc ts s (Nat.le_refl _)];rfl
 rw[zTq _ c s hc ts s];have hm:=Nat.div_add_mod s c;have hl:=Nat.mod_lt s hc;have h1:(s+(c-1-s % c)) / c=s / c:=by
  rw[show s+(c-1-s % c)=c*(s / c)+(c-1) by omega,Nat.mul_add_div hc,show (c-1) / c=0 from Nat.div_eq_of_lt (by omega)];rfl
 rw[h1];unfold Xp;rw[if_pos rfl,Nat.mul_add,Nat.mul_one,Nat.mul_comm (s / c) c];omega
def VN (t:Z9):Z9:=.mk 1 t.text t.cols t.kids
theorem zVs (c s:Nat) (columns:Bool) (ts:List Z9) (h1:∀x∈ts,x.kind=1):∀k,k<=ts.length->(Zi ZN c s columns ts k).map VN=Zi (Z7 []) c s columns ts k
 |0,_=>rfl
 |
  k+1,hk=>by
  have e1:ts.getD k ZN=ts[k]:=by rw[List.getD_eq_getElem?_getD,List.getElem?_eq_getElem (by omega)];rfl
  have e2:VN ts[k]=ts[k]:=by
   have:=h1 ts[k] (List.getElem_mem _);unfold VN;rw[<-this];cases ts[k];rfl
  rw[Zi,Zi,List.map_append,zVs c s columns ts h1 k (by omega),List.map_cons,e1,e2];congr 2;unfold Va;rw[List.map_append];congr 1
  ·split<;>rfl
  split
  ·rw[List.map_replicate];rfl
  rfl
theorem zUe (z:Z9) (c s:Nat) (columns:Bool) (ts:List Z9):∀k,(Zi z c s columns ts k).length<=k*(c+2)
 |0=>by simp[Zi]
 |
  k+1=>by
  have:=zUe z c s columns ts k;rw[Zi,List.length_append,Nat.add_mul];have h2:(Va z c s columns k).length<=c+1:=by
   unfold Va;rw[List.length_append];split<;>split<;>simp<;>omega
  simp only[List.length_cons];omega
theorem zTw {it:Z9} (h:Y9 it=true) (hk:it.kind=12):∃c:Nat,it.cols=(c:Int)/\1<=c/\c<=16/\it.kids.length<=256/\it.kids.length % c=0/\∀x∈it.kids,x.kind=1:=by
 have h2:=zTl h;unfold Zp at h2;rw[if_pos hk] at h2;simp only[Bool.and_eq_true,decide_eq_true_eq,beq_iff_eq] at h2;obtain⟨c,hc⟩:∃c:Nat,it.cols=(c:Int):=⟨it.cols.toNat,by omega⟩;rw[hc] at h2;refine⟨c,hc,by omega,by omega,by omega,by have:=h2.2;omega,fun x hx=>?_⟩;obtain⟨j,hj,rfl⟩:=List.mem_iff_getElem.1 hx;have:=(VL h hj).2;rw[hk] at this;simpa using this
theorem zS3 (t:Z9) (p m:List Int) (columns:Bool):((ZK t p m).2≠0->VM t p m columns=(ZB,(ZK t p m).2))/\((ZK t p m).2=0->Y5 t p=none->VM t p m columns=(ZB,8)) /\
  (∀rr ra rb q2 i (s':Nat) it o,ZK t p m=((rr,ra,rb),0)->Y5 t p=some ⟨q2,i,(s':Int),it⟩->p=q2++[i,(s':Int)]++[o]->s'<it.kids.length ->
   (it.kind≠12->VM t p m columns=(ZB,7)) /\
   (it.kind=12->∃c:Nat,it.cols=(c:Int)/\1<=c/\c<=16/\it.kids.length<=256/\(∀x∈it.kids,x.kind=1) /\
    VM t p m columns=YE t p m [Zf q2 i [it],Yw q2 i [.mk 12 Zz (if columns then (c:Int)+1 else (c:Int)) (Zi (Z7 []) c s' columns it.kids it.kids.length)]] (q2++[i,(Xp c s' columns:Int),o]) [])):=by
 refine⟨fun h=>?_,fun h h1=>?_,fun rr ra rb q2 i s' it o h h1 hp h2=>⟨fun hc=>?_,fun hc=>?_⟩⟩
 ·unfold VM;rw[if_pos h]
 ·unfold VM;rw[if_neg (by simp[h]),h1]
 ·unfold VM;rw[h,if_neg (by simp),h1];simp only;rw[if_pos hc]
 obtain⟨hv,aa,_⟩:=Wt (t:=t) (p:=p) (m:=m) (by rw[h]);have ae:=aa;rw[hp] at ae;have ha:=zUb hv ae;rw[<-hp,h1] at ha;obtain⟨f1,f2⟩:=zVd hv ae;have he:it=ZZ (ZP t q2).1 i:=by injection ha with ha;injection ha
 rw[<-he] at f1 f2;obtain⟨c,af,c1,c2,c3,c4,c5⟩:=zTw f1 hc;refine⟨c,af,c1,c2,c3,c5,?_⟩;have e2:p.getLastD 0=o:=by rw[hp];simp
 unfold VM;rw[h,if_neg (by simp),h1];simp only;rw[if_neg (by simpa using hc),e2,af,Int.toNat_natCast,zVb c s' (by omega) columns it.kids (by omega),zSr c s' (by omega)];rfl
theorem zTc (t:Z9) (p m:List Int) (text:ByteArray):((ZK t p m).2≠0->X7 t p m text=(ZB,(ZK t p m).2)) /\
  (∀rr ra rb q o its,ZK t p m=((rr,ra,rb),0)->p=q++[o]->its=(ZM t q).1.kids->(o=0->X7 t p m text=(ZB,8)) /\
   ∀(k:Nat) (hk:k<its.length),o=(k:Int)+1->(XR its[k].kind=true/\its[k].text≠text->X7 t p m text=YE t p m [Wl q (k:Int) its[k].text text] p m)/\(¬(XR its[k].kind=true/\its[k].text≠text)->X7 t p m text=(ZB,7))):=by
 refine⟨fun h=>by unfold X7;rw[if_pos h],fun rr ra rb q o its h aj ax=>⟨fun h0=>?_,fun k hk ho=>?_⟩⟩
 ·unfold X7;rw[h,if_neg (by simp),if_pos (by rw[aj,h0];simp)]
 obtain⟨hv,hp,_,_⟩:=Wt (t:=t) (p:=p) (m:=m) (by rw[h]);have au:=hp;rw[aj] at au;obtain⟨hf,_,_⟩:=R6 au;have ae:=TY hv hf;have hi:its=(ZP t q).1.kids:=by rw[ax,ae]
 have e1:p.dropLast=q:=by rw[aj];simp
 have e2:p.getLastD 0=o:=by rw[aj];simp
 have e3:(YR t q (o-1)).1=its[k]:=by
  unfold YR;rw[ae,if_neg (by simp),if_neg (by simp only;rw[<-hi];omega)];simp only;rw[<-hi,show (o-1).toNat=k by omega];simp[Zc,hk]
 have e4:o-1=(k:Int):=by omega
 obtain⟨op,ag⟩:∃op,Wl q (k:Int) its[k].text text=op:=⟨_,rfl⟩;have hS:X7 t p m text=if (Zw t op).2=4\/(Zw t op).2=7 then (ZB,7) else if (YB t [op]).2=0 then (⟨[op],p,m,p,m⟩,0) else (ZB,6):=by
  unfold X7;rw[h,if_neg (by simp),e1,e2,if_neg (by omega),e4,<-ag];rw[<-e3,e4]
 have aa:Zb op = !(its[k].text.toList==text.toList):=by
  rw[<-ag];unfold Zb Wl;simp
 have ah:ZH its op=if XR its[k].kind=true then (Zn its k (k+1) [.mk its[k].kind text its[k].cols its[k].kids],0) else ([],7):=by
  rw[<-ag];unfold ZH Wl Y7;simp only;have hg:its.getD ((k:Int).toNat) ZN=its[k]:=by rw[Int.toNat_natCast,List.getD_eq_getElem?_getD,List.getElem?_eq_getElem hk];rfl
  rw[if_neg (by simp;omega),if_neg (by simp),if_neg (by simp),if_neg (by simp),if_neg (by simp),hg];have e5:(its[k].text.toList==its[k].text.toList)=true:=by simp
  rw[e5];by_cases af:XR its[k].kind=true
  ·rw[if_pos ⟨af,rfl⟩,if_pos af,show ((k:Int)+1).toNat=k+1 by omega,Int.toNat_natCast]
  rw[if_neg (fun h=>af h.1),if_neg af]
 have av:op.row=q:=by rw[<-ag];rfl
 have hA:Zw t op=if Zb op=false then (ZN,4) else if (ZH its op).2≠0 then (ZN,(ZH its op).2) else if ZU (ZV t q (ZH its op).1)=false then (ZN,6) else (ZV t q (ZH its op).1,0):=by
  unfold Zw;rw[if_neg (by simp[hv]),av,ae];simp only;rw[<-hi];simp
 refine⟨fun hc=>?_,fun hc=>?_⟩
 ·have ak:(its[k].text.toList==text.toList)=false:=by
   rw[beq_eq_false_iff_ne];intro e;exact hc.2 (QM.1 e)
  rw[hS,if_neg,ag]
  ·rfl
  rw[hA,aa,ak,if_neg (by simp),ah,if_pos hc.1];simp only;rw[if_neg (by simp)];split<;>simp
 rw[hS,if_pos];rw[hA];by_cases he:its[k].text=text
 ·rw[aa,he];simp
 have af:¬XR its[k].kind=true:=fun h=>hc ⟨h,he⟩
 have ak:(its[k].text.toList==text.toList)=false:=by
  rw[beq_eq_false_iff_ne];intro e;exact he (QM.1 e)
 rw[aa,ak,if_neg (by simp),ah,if_neg af,if_pos (by simp)];exact .inr rfl
def NF (F:Nat->Prop) (W:World) (k:Nat):Prop:=k<W.heap.size/\¬F k
structure YX (F F':Nat->Prop) (W W':World):Prop where
 kept:ZY F W W'
 new:∀k,F' k->F k\/W.heap.size<=k
theorem YX.of_bl {F:Nat->Prop} {W W':World} (h:Below W.heap.size W W'):YX F F W W':=⟨ZY.of_below h _,fun _ h=>.inl h⟩
theorem YX.keep {α:Type} {E:YA α} {F F':Nat->Prop} {W W':World} {xs:List α} {v:Value} (h:YX F F' W W') (hr:Z8 E W (NF F W) xs v):Z8 E W' (NF F' W') xs v :=
 hr.keep (fun q hq=>h.kept.cell hq.1 hq.2) (fun k hk=>⟨Qk hk.1 h.kept.size,fun e=>(h.new k e).elim hk.2 (fun e=>absurd hk.1 (by omega))⟩)
theorem Zv {α:Type} {E:YA α} {F:Nat->Prop} {W W':World} {xs:List α} {v:Value} (h:Below W.heap.size W W') (hr:Z8 E W (NF F W) xs v):Z8 E W' (NF F W') xs v:=(YX.of_bl h).keep hr
theorem YZ {α:Type} {E:YA α} {F:Nat->Prop} {W:World} {xs:List α} {v:Value} (hr:Z8 E W (NF F W) xs v):Z8 E W (Lt W.heap.size) xs v:=hr.keep (fun _ _=>rfl) (fun k hk=>hk.1)
theorem zPr (X:World) (is:List Int) (T:TypeId) (aa:∀i∈is,Z4 i) (hl:is.length<=maxLen):Z0 (X.alloc (.cells (is.map (.int .i64 ·)).toArray T)) (fun k=>k=X.heap.size) is (.slice (some ⟨X.heap.size,0,none⟩) is.length is.length):=by
 refine⟨_,_,is.map (.int .i64 ·),rfl,Qi _,hl,fun _=>⟨X.heap.size,0,rfl,rfl,fun j u hu=>?_⟩,Ws.2 ⟨rfl,aa⟩⟩;rw[Nat.zero_add,World.cell?_alloc_new];simpa using hu
theorem Ty {F F':Nat->Prop} {X W':World} {T:TypeId} (is:List Int) (aa:∀i∈is,Z4 i) (hl:is.length<=maxLen) (hF:∀k,F k->k<X.heap.size) (hs:YX F F' (X.alloc (.cells (is.map (.int .i64 ·)).toArray T)) W'):Z0 W' (NF F' W') is (.slice (some ⟨X.heap.size,0,none⟩) is.length is.length) :=
 hs.keep ((zPr X is T aa hl).keep (fun _ _=>rfl) (fun k hk=>by subst hk;exact⟨by simp,fun e=>absurd (hF _ e) (Nat.lt_irrefl _)⟩))
theorem TZ (X:World) (is:List Int) (T:TypeId) (aa:∀i∈is,Z4 i) (hl:is.length<=maxLen):Z0 (X.alloc (.cells (is.map (.int .i64 ·)).toArray T)) (Lt (X.alloc (.cells (is.map (.int .i64 ·)).toArray T)).heap.size) is (.slice (some ⟨X.heap.size,0,none⟩) is.length is.length) :=
 (zPr X is T aa hl).keep (fun _ _=>rfl) (fun k hk=>by subst hk;unfold Lt;simp)
structure BS (w0 W:World) (F:Nat->Prop) (B:Nat) (x:Array Value) (ops:List ZL):Prop where
 below:Below w0.heap.size w0 W
 lo:∀k,F k->w0.heap.size<=k
 hi:∀k,F k->k<W.heap.size
 ex:∃arr b vo,Z5 W B (.cells arr 86)/\arr.size=25/\(∀j,j<6->arr[j]?=x[j]?)/\arr[20]?=some vo/\Y2 Za 49 W b ops vo/\B<b/\b<=W.heap.size/\arr[23]?=some (.slice none 0 0)/\arr[24]?=some (.slice none 0 0)/\∀k,(k=B\/some k=vo.ownBlock)->F k
theorem BS.bl {w0 W W':World} {F:Nat->Prop} {B:Nat} {x:Array Value} {ops:List ZL} (h:BS w0 W F B x ops) (hb:Below W.heap.size W W'):BS w0 W' F B x ops:=by
 obtain⟨arr,b,vo,ho,h1,h2,h3,h4,h5,h6,h7,h8,h9⟩:=h.ex;exact⟨h.below.trans (hb.mono h.below.size),h.lo,fun k hk=>Qk (h.hi k hk) hb.size,arr,b,vo,ho.below hb,h1,h2,h3,h4.below hb,h5,Qf h6 hb.size,h7,h8,h9⟩
structure BA (w0 W:World) (B:Nat) (x:Array Value) (ops:List ZL) (ap am:List Int):Prop where
 below:Below w0.heap.size w0 W
 lo:w0.heap.size<=B
 ex:∃arr vo vap vam,Z5 W B (.cells arr 86)/\arr.size=25/\(∀j,j<6->arr[j]?=x[j]?)/\arr[20]?=some vo/\arr[23]?=some vap/\arr[24]?=some vam/\Z8 Za W (fun k=>B<k/\k<W.heap.size) ops vo/\Z0 W (fun k=>B<k/\k<W.heap.size) ap vap/\Z0 W (fun k=>B<k/\k<W.heap.size) am vam
theorem R4 {α:Type} {E:YA α} {W W':World} {B:Nat} {xs:List α} {v:Value} (h:ZY (fun k=>k=B) W W') (hr:Z8 E W (fun k=>B<k/\k<W.heap.size) xs v):Z8 E W' (fun k=>B<k/\k<W'.heap.size) xs v :=
 hr.keep (fun q hq=>h.cell hq.2 (Nat.ne_of_gt hq.1)) (fun k hk=>⟨hk.1,Qk hk.2 h.size⟩)
theorem BA.bl {w0 W W':World} {B:Nat} {x:Array Value} {ops:List ZL} {ap am:List Int} (h:BA w0 W B x ops ap am) (hb:Below W.heap.size W W'):BA w0 W' B x ops ap am:=by
 obtain⟨arr,vo,vap,vam,ho,h1,h2,h3,h4,h5,h6,h7,h8⟩:=h.ex;exact⟨h.below.trans (hb.mono h.below.size),h.lo,arr,vo,vap,vam,ho.below hb,h1,h2,h3,h4,h5,R4 (ZY.of_below hb _) h6,R4 (ZY.of_below hb _) h7,R4 (ZY.of_below hb _) h8⟩
theorem Wx (x0 x1 x2 x3 x4 x5 x6 x7 x8 x9 ax av au ak aj ah ag af ae aa:Value) (w0 W:World) (hW:Below w0.heap.size w0 W) :
  Calls Tryz.prog 44 #[.agg #[x0,x1,x2,x3,x4,x5,x6,x7,x8,x9,ax,av,au,ak,aj,ah,ag,af,ae,aa]] W fun e w'=>∃B F,e=.returned (.pointer (some ⟨B,0,none⟩))/\BS w0 w' F B #[x0,x1,x2,x3,x4,x5,x6,x7,x8,x9,ax,av,au,ak,aj,ah,ag,af,ae,aa] []/\YX (fun _=>False) F W w':=by
 refine(zQr x0 x1 x2 x3 x4 x5 x6 x7 x8 x9 ax av au ak aj ah ag af ae aa W).mono ?_;rintro e w' ⟨B,rfl,hB,ho,hb⟩;have hs:=hW.size;refine⟨B,fun k=>k=B,rfl,⟨hW.trans (hb.mono hs),by rintro k rfl;omega,by rintro k rfl;exact ho.lt,_,B+1,.slice none 0 0,ho,rfl,fun j hj=>?_,rfl,Y2.nil _ _,by omega,ho.lt,rfl,rfl,fun k hk=>?_⟩,ZY.of_below hb _,fun k e=>.inr (e ▸ hB)⟩
 ·rcases j with _|_|_|_|_|_|j<;>first|rfl|omega
 rcases hk with hk|hk
 ·exact hk
 simp[Value.ownBlock] at hk
theorem XO {w0 W:World} {F:Nat->Prop} {B:Nat} {x:Array Value} {ops:List ZL} (h:BS w0 W F B x ops) (op:ZL) (Ar An:Option Addr) (cr cn:Nat) (aB:ops.length<=1000)
  (hr:Z0 W (Lt W.heap.size) op.row (.slice Ar op.row.length cr)) (hn:Z8 Z6 W (Lt W.heap.size) op.nodes (.slice An op.nodes.length cn)) (az:op.row.length<=1000000) (aC:ZQ op.nodes<=1000000) (hk:Z4 op.kind) (ha:Z4 op.at_) (ag:Z4 op.n) (hs:Z4 op.slot) (aA:op.old.size<=maxLen) (ay:op.text.size<=maxLen) :
  Calls Tryz.prog 45 #[.pointer (some ⟨B,0,none⟩),.agg (Zm op (.slice Ar op.row.length cr) (.slice An op.nodes.length cn))] W fun e w'=>∃F',e=.returned (.pointer (some ⟨B,0,none⟩))/\BS w0 w' F' B x (ops++[op])/\YX F F' W w':=by
 obtain⟨arr,b,vo,ho,hz,h6,aH,ae,av,hb,aG,aF,hF⟩:=h.ex;refine(Sk B b arr vo ops op Ar An cr cn W ho aH ae av hb aB hr hn az aC hk ha ag hs aA ay).mono ?_;rintro e w' ⟨ah,rfl,aj,aa,ak,af⟩;have au:=ak.mono (fun k _ e=>hF k e);have ax:=hF B (.inl rfl);have aD:=h.lo B ax;refine⟨fun k=>k=B\/some k=ah.ownBlock,rfl,⟨h.below.trans (au.below h.below.size h.lo),?_,?_,_,b,ah,aj,by simpa using hz,fun j hj=>?_,by rw[Array.getElem?_setIfInBounds_self_of_lt];omega,aa,av,Qf hb ak.size,?_,?_,fun k e=>e⟩,au,?_⟩
 ·rintro k (rfl|e)
  ·exact aD
  have:=(aa.own_lt k e.symm).1;omega
 ·rintro k (rfl|e)
  ·exact aj.lt
  exact(aa.own_lt k e.symm).2
 ·rw[Array.getElem?_setIfInBounds_ne (by omega)];exact h6 j hj
 ·rw[Array.getElem?_setIfInBounds_ne (by decide)];exact aG
 ·rw[Array.getElem?_setIfInBounds_ne (by decide)];exact aF
 rintro k (rfl|e)
 ·exact .inl ax
 exact(af k e).imp (fun e=>hF k (.inr e)) id
theorem XN {w0 W:World} {F:Nat->Prop} {B:Nat} {x:Array Value} {ops:List ZL} (h:BS w0 W F B x ops) (p r:List Int) (Ap Ar:Option Addr) (cp cr:Nat) (hp:Z0 W (Lt W.heap.size) p (.slice Ap p.length cp)) (hr:Z0 W (Lt W.heap.size) r (.slice Ar r.length cr)) (hl:p.length+r.length<=100000) :
  Calls Tryz.prog 47 #[.pointer (some ⟨B,0,none⟩),.slice Ap p.length cp,.slice Ar r.length cr] W fun e w'=>e=.returned (.pointer (some ⟨B,0,none⟩))/\BA w0 w' B x ops (p++r) []:=by
 obtain⟨arr,b,vo,ho,hz,h6,ak,aa,aj,hb,h23,h24,hF⟩:=h.ex;refine(zVn B arr p r Ap Ar cp cr W ho hz hp hr hl).mono ?_;rintro e w' ⟨vp,rfl,ag,hv,af⟩;have ae:=h.lo B (hF B (.inl rfl));have ah:=ho.lt;refine⟨rfl,h.below.trans (af.below h.below.size (fun k e=>by rw[e];exact ae)),ae,_,vo,vp,.slice none 0 0,ag,by simpa using hz,fun j hj=>?_,?_,?_,?_,R4 af (aa.rows.keep (fun _ _=>rfl) (fun k hk=>⟨Qk aj hk.1,hk.2⟩)),hv.keep (fun _ _=>rfl) (fun k hk=>⟨Qk ah hk.1,hk.2⟩),Z8.nil_ 0 (Qj _) none⟩
 ·rw[Array.getElem?_setIfInBounds_ne (by omega),Array.getElem?_setIfInBounds_ne (by omega)];exact h6 j hj
 ·rw[Array.getElem?_setIfInBounds_ne (by decide),Array.getElem?_setIfInBounds_ne (by decide)];exact ak
 ·rw[Array.getElem?_setIfInBounds_ne (by decide),Array.getElem?_setIfInBounds_self_of_lt (by omega)]
 rw[Array.getElem?_setIfInBounds_self_of_lt (by simp;omega)]
theorem Ur {w0 W:World} {B:Nat} {x:Array Value} {ops:List ZL} {ap am:List Int} (h:BA w0 W B x ops ap am) (p r:List Int) (Ap Ar:Option Addr) (cp cr:Nat) (hp:Z0 W (Lt W.heap.size) p (.slice Ap p.length cp)) (hr:Z0 W (Lt W.heap.size) r (.slice Ar r.length cr)) (hl:p.length+r.length<=100000) :
  Calls Tryz.prog 47 #[.pointer (some ⟨B,0,none⟩),.slice Ap p.length cp,.slice Ar r.length cr] W fun e w'=>e=.returned (.pointer (some ⟨B,0,none⟩))/\BA w0 w' B x ops (p++r) []:=by
 obtain⟨arr,vo,vap,vam,ho,hz,h6,aj,h23,h24,aa,hap,ham⟩:=h.ex;refine(zVn B arr p r Ap Ar cp cr W ho hz hp hr hl).mono ?_;rintro e w' ⟨vp,rfl,ag,hv,af⟩;have ae:=h.lo;have ah:=ho.lt;refine⟨rfl,h.below.trans (af.below h.below.size (fun k e=>by rw[e];exact ae)),ae,_,vo,vp,.slice none 0 0,ag,by simpa using hz,fun j hj=>?_,?_,?_,?_,R4 af aa,hv.keep (fun _ _=>rfl) (fun k hk=>⟨Qk ah hk.1,hk.2⟩),Z8.nil_ 0 (Qj _) none⟩
 ·rw[Array.getElem?_setIfInBounds_ne (by omega),Array.getElem?_setIfInBounds_ne (by omega)];exact h6 j hj
 ·rw[Array.getElem?_setIfInBounds_ne (by decide),Array.getElem?_setIfInBounds_ne (by decide)];exact aj
 ·rw[Array.getElem?_setIfInBounds_ne (by decide),Array.getElem?_setIfInBounds_self_of_lt (by omega)]
 rw[Array.getElem?_setIfInBounds_self_of_lt (by simp;omega)]
def Zh (w0:World) (r:Ze×Int) (e:Ending) (w':World):Prop :=
 ∃Ao co Ap cp Am cm Aap cap Aam cam,e=.returned (.tuple #[.agg #[.slice Ao r.1.ops.length co,.slice Ap r.1.bp.length cp,.slice Am r.1.bm.length cm,.slice Aap r.1.ap.length cap,.slice Aam r.1.am.length cam],.int .i64 r.2])/\Z8 Za w' (Lt w'.heap.size) r.1.ops (.slice Ao r.1.ops.length co)/\Z0 w' (Lt w'.heap.size) r.1.bp (.slice Ap r.1.bp.length cp)/\Z0 w' (Lt w'.heap.size) r.1.bm (.slice Am r.1.bm.length cm)/\Z0 w' (Lt w'.heap.size) r.1.ap (.slice Aap r.1.ap.length cap)/\Z0 w' (Lt w'.heap.size) r.1.am (.slice Aam r.1.am.length cam)/\Below w0.heap.size w0 w'
def ZC (w0:World) (r:Ze×Int) (e:Ending) (w':World):Prop :=
 ∃Ao co Ap cp Am cm Aap cap Aam cam,e=.returned (.tuple #[.agg #[.slice Ao r.1.ops.length co,.slice Ap r.1.bp.length cp,.slice Am r.1.bm.length cm,.slice Aap r.1.ap.length cap,.slice Aam r.1.am.length cam],.int .i64 r.2])/\Z8 Za w' (fun k=>w0.heap.size<=k/\k<w'.heap.size) r.1.ops (.slice Ao r.1.ops.length co)/\Z0 w' (fun k=>w0.heap.size<=k/\k<w'.heap.size) r.1.bp (.slice Ap r.1.bp.length cp)/\Z0 w' (fun k=>w0.heap.size<=k/\k<w'.heap.size) r.1.bm (.slice Am r.1.bm.length cm)/\Z0 w' (fun k=>w0.heap.size<=k/\k<w'.heap.size) r.1.ap (.slice Aap r.1.ap.length cap)/\Z0 w' (fun k=>w0.heap.size<=k/\k<w'.heap.size) r.1.am (.slice Aam r.1.am.length cam)/\Below w0.heap.size w0 w'
theorem ZC.weak {w0:World} {r:Ze×Int} {e:Ending} {w':World} (h:ZC w0 r e w'):Zh w0 r e w':=by
 obtain⟨A1,c1,A2,c2,A3,c3,A4,c4,A5,c5,rfl,r1,r2,r3,r4,r5,hb⟩:=h;have ki:∀{xs:List Int} {v:Value},Z0 w' (fun k=>w0.heap.size<=k/\k<w'.heap.size) xs v->Z0 w' (Lt w'.heap.size) xs v:=fun h=>h.keep (fun _ _=>rfl) (fun k hk=>hk.2)
 exact⟨A1,c1,A2,c2,A3,c3,A4,c4,A5,c5,rfl,r1.keep (fun _ _=>rfl) (fun k hk=>hk.2),ki r2,ki r3,ki r4,ki r5,hb⟩
theorem zVj {w0 W:World} {B:Nat} {x:Array Value} {ops:List ZL} {ap am:List Int} (h:BA w0 W B x ops ap am) (t:Z9) (p m:List Int) (A Ap Am:Option Addr) (cap cp cm:Nat)
  (h0:x[0]?=some (.int .i64 t.kind)) (h1:x[1]?=some (.string t.text)) (h2:x[2]?=some (.int .i64 t.cols)) (h3:x[3]?=some (.slice A t.kids.length cap)) (h4:x[4]?=some (.slice Ap p.length cp)) (h5:x[5]?=some (.slice Am m.length cm))
  (hv:Z8 Z6 W (Lt W.heap.size) t.kids (.slice A t.kids.length cap)) (ag:Zk t) (ak:ZR t<=900000) (hp:Z0 W (Lt W.heap.size) p (.slice Ap p.length cp)) (hm:Z0 W (Lt W.heap.size) m (.slice Am m.length cm)) (ae:p.length<=1000000) (ah:m.length<=1000000) (af:ops.length<=1000) :
  Calls Tryz.prog 48 #[.pointer (some ⟨B,0,none⟩)] W (ZC w0 (YE t p m ops ap am)):=by
 obtain⟨arr,vo,vap,vam,ho,hz,h6,az,ay,ax,aa,au,av⟩:=h.ex;obtain⟨Ao,co,rfl⟩:=aa.form;refine(UB B arr t p m ap am ops A Ap Am Ao cap cp cm co vap vam W ho hz ((h6 0 (by decide)).trans h0) ((h6 1 (by decide)).trans h1) ((h6 2 (by decide)).trans h2) ((h6 3 (by decide)).trans h3) ((h6 4 (by decide)).trans h4) ((h6 5 (by decide)).trans h5) az ay ax hv ag ak hp hm ae ah aa af au av).mono ?_;rintro e w' ⟨vo,vbp,vbm,vap,vam,rfl,r1,r2,r3,r4,r5,hk⟩;obtain⟨A1,c1,rfl⟩:=r1.form;obtain⟨A2,c2,rfl⟩:=r2.form;obtain⟨A3,c3,rfl⟩:=r3.form;obtain⟨A4,c4,rfl⟩:=r4.form;obtain⟨A5,c5,rfl⟩:=r5.form;have aj:=h.lo;have kn:∀{α:Type} {E:YA α} {xs:List α} {v:Value},Z8 E w' (fun k=>B<k/\k<w'.heap.size) xs v->Z8 E w' (fun k=>w0.heap.size<=k/\k<w'.heap.size) xs v:=fun h=>h.keep (fun _ _=>rfl) (fun k hk=>⟨Qf aj (Nat.le_of_lt hk.1),hk.2⟩)
 exact⟨A1,c1,A2,c2,A3,c3,A4,c4,A5,c5,rfl,kn r1,kn r2,kn r3,kn r4,kn r5,h.below.trans (hk.below h.below.size (fun k e=>by rw[e];exact h.lo))⟩
theorem Zh.store {w0:World} {r:Ze×Int} {e:Ending} {w' w2:World} {g:Nat} (h:Zh w0 r e w') (hs:TH w' g) (hk:∀k,k≠g->w2.heap[k]?=w'.heap[k]?) (hz:w2.heap.size=w'.heap.size) (hb:Below w0.heap.size w0 w2):Zh w0 r e w2:=by
 obtain⟨A1,c1,A2,c2,A3,c3,A4,c4,A5,c5,rfl,r1,r2,r3,r4,r5,_⟩:=h;have ki:∀{xs:List Int} {v:Value},Z0 w' (Lt w'.heap.size) xs v->Z0 w2 (Lt w2.heap.size) xs v:=fun h=>(zM1 hs h).keep (fun q hq=>World.cell?_of_block (hk _ hq.2)) (fun k hk=>by unfold Lt;rw[hz];exact hk.1)
 exact⟨A1,c1,A2,c2,A3,c3,A4,c4,A5,c5,rfl,(U9 hs r1).keep (fun q hq=>World.cell?_of_block (hk _ hq.2)) (fun k hk=>by unfold Lt;rw[hz];exact hk.1),ki r2,ki r3,ki r4,ki r5,hb⟩
theorem ZC.store {w0:World} {r:Ze×Int} {e:Ending} {w' w2:World} {g:Nat} (h:ZC w0 r e w') {w1:World} (aa:w1.heap.size<=w0.heap.size) (hs:TH w' g) (hk:∀k,k≠g->w2.heap[k]?=w'.heap[k]?) (hz:w2.heap.size=w'.heap.size) (hb:Below w1.heap.size w1 w2):ZC w1 r e w2:=by
 obtain⟨A1,c1,A2,c2,A3,c3,A4,c4,A5,c5,rfl,r1,r2,r3,r4,r5,_⟩:=h;have ki:∀{xs:List Int} {v:Value},Z0 w' (fun k=>w0.heap.size<=k/\k<w'.heap.size) xs v->Z0 w2 (fun k=>w1.heap.size<=k/\k<w2.heap.size) xs v:=fun h=>(zM1 hs h).keep (fun q hq=>World.cell?_of_block (hk _ hq.2)) (fun k hk=>⟨Qf aa hk.1.1,by rw[hz];exact hk.1.2⟩)
 exact⟨A1,c1,A2,c2,A3,c3,A4,c4,A5,c5,rfl,(U9 hs r1).keep (fun q hq=>World.cell?_of_block (hk _ hq.2)) (fun k hk=>⟨Qf aa hk.1.1,by rw[hz];exact hk.1.2⟩),ki r2,ki r3,ki r4,ki r5,hb⟩
def V8 {α:Type} (E:YA α) (T:TypeId) (w:World) (b:Nat) (S:Nat->Prop) (ts:List α) (v:Value):Prop:=∃cs,w.ownsRow b T E.size v ts.length cs/\ZG E w S ts cs
section
variable {α:Type} {E:YA α} {T:TypeId}
theorem V8.rows {w:World} {b:Nat} {S:Nat->Prop} {ts:List α} {v:Value} (h:V8 E T w b S ts v) (S':Nat->Prop) (hS:∀k,S k->S' k) (hb:∀k,b<=k->k<w.heap.size->S' k):Z8 E w S' ts v:=by
 obtain⟨cs,h1,h2⟩:=h;exact Z8.of_own (E:=E) h1 (fun k hk=>hb k (h1.lt k hk).1 (h1.lt k hk).2) (h2.keep (Wi _ _) hS)
theorem app_O {w:World} {b:Nat} {S:Nat->Prop} {xss yss:List α} {v:Value} {TS:TypeId} {z:Value} {bytes:Nat} (hu:Tryz.prog.underlying TS=some (.slice T)) (ag:Ue T z E.size bytes) (hz:z.cells.size=E.size) (aB:bytes<=200) (hS:∀k,S k->k<b)
  {ops:Array Oper} {rest:List Oper} {o:Oper} {a:Act} {Q:Exit->Act->World->Prop} (aA:o.guard=none) (s x:Operand)
  (ho:o.op=.call { callee:=.builtin .append,args:=#[s,x],argTypes:=#[TS,TS] })
  (hs:a.eval s=v) (ae:V8 E T w b S xss v) (A:Option Addr) (m c:Nat) (hx:a.eval x=.slice A m c) (S':Nat->Prop) (cs':List Value) (ax:Zd w S' A cs') (af:ZG E w S yss cs') (hm:m=yss.length)
  (aa:xss.length+yss.length<=100000000) (hb:b<=w.heap.size)
  (h:∀v' w',V8 E T w' b S (xss++yss) v'->Below b w w'->wpList Tryz.prog ops Q rest (a.put o.dst v') w'):wpList Tryz.prog ops Q (o::rest) a w:=by
 obtain⟨i0,az,av,au,ak⟩:=ag;subst hm;obtain⟨cs,ah,ay⟩:=ae;have hl:=af.len;refine TF w aA s x TS ho b T i0 _ E.size bytes hu az av au ak hz E.pos v _ _ hs ah _ A _ c cs' hx hl ax af.one (by simp only[maxLen];omega) ?_ hb ?_
 ·have:(xss.length+yss.length)*bytes<=100000000*200:=Nat.mul_le_mul aa aB;omega
 intro v' w' h3 h4 h5;have aj:=Un _ ah h4 hb;exact h v' w' ⟨cs++cs',by rw[List.length_append];exact h3,(ay.append af).keep (S:=S) (fun p hp=>aj.cell (hS _ hp)) (fun _ h=>h)⟩ aj
end
section
variable {P:Program} (w:World)
theorem zR5 (base:Nat) (t tn ty e:TypeId) (i:TypeInfo) (z:Value) (kq kn:IntKind) (size bytes:Nat) (ht:P.underlying t=some (.slice e)) (aA:P.underlying tn=some (.int kn)) (hi:P.info? e=some i) (hz:i.zero=some z)
  (av:i.size=size) (aP:i.bytes=bytes) (aJ:z.cells.size=size) (hsz:0<size)
  (v:Value) (n:Nat) (xs:List Value) (ae:w.ownsRow base e size v n xs) (k:Nat) (h0:0<k) (h1:∀u∈(Builtin.zeroCells z.cells k).toList,u.oneCell'=true)
  (aL:n+k<=maxLen) (ak:(n+k)*bytes<=140737488355328) (ay:base<=w.heap.size) :
  ∃v' w',(Builtin.append_ #[t,tn] ty #[v,.int kq k]).run P w=.ok v' w'/\w'.ownsRow base e size v' (n+k) (xs++(Builtin.zeroCells z.cells k).toList)/\w.grownBy w' v.ownBlock:=by
 subst av;subst aP;obtain⟨aa,ag⟩:∃aa,(Builtin.zeroCells z.cells k).toList=aa:=⟨_,rfl⟩;have aF:Builtin.zeroCells z.cells k=aa.toArray:=by rw[<-ag]
 have hl:aa.length=k*i.size:=by rw[<-ag,<-aJ];simp[size_zeroCells]
 rw[ag] at h1 ⊢;have aB:n+k<=9223372036854775807:=by simp only[maxLen] at aL;omega
 have ax:k*i.bytes<=281474976710656:=by
  have:k*i.bytes<=(n+k)*i.bytes:=Nat.mul_le_mul_right _ (by omega);omega
 have ah:(xs++aa).length=(n+k)*i.size:=by rw[List.length_append,ae.1,hl,Nat.add_mul]
 have grown:∀(old:Nat),old<n+k->∀(row:Option Nat),
   (w.drew.alloc (.cells (xs.toArray++aa.toArray++Builtin.zeroCells z.cells (grownCap w (n+k) old e-(n+k))) e)).ownsRow base e i.size
    (.slice (some ⟨w.heap.size,0,none⟩) (n+k) (grownCap w (n+k) old e)) (n+k) (xs++aa) /\
   w.grownBy (w.drew.alloc (.cells (xs.toArray++aa.toArray++Builtin.zeroCells z.cells (grownCap w (n+k) old e-(n+k))) e)) row:=by
  intro old ho row;have aN:=grownCap_ge w (n+k) old e;have aH:grownCap w (n+k) old e<=maxLen:=grownCap_le_maxLen w (n+k) old e aL;refine⟨⟨ah,.inr ⟨w.heap.size,_,_,rfl,ay,heap_alloc_new w.drew _,aN,aH,?_,?_⟩⟩,⟨rfl,rfl,rfl,by simp,fun k hk _=>Below.heap_alloc w.drew _ k hk⟩⟩
  ·simp only[Array.size_append,List.size_toArray,size_zeroCells,aJ,ae.1,hl,<-Nat.add_mul];congr 1;omega
  simp only[Array.toList_append,List.append_assoc];rw[<-List.append_assoc,<-ah];exact List.take_left
 rcases ae.2 with ⟨rfl,rfl⟩|⟨g,cap,az,rfl,aQ,hg,hnc,aH,aO,au⟩
 ·have hx:xs=[]:=List.eq_nil_of_length_eq_zero (by simpa using ae.1);subst hx;have hr:=Lib.run_append_nil_zeros (P:=P) w t tn ty e i z kq kn ht aA hi hz k h0 (by omega) (by omega) ax;have aj:=grown 0 (by omega) (Value.ownBlock (.slice none 0 0));simp only[Nat.zero_add,List.nil_append,Array.empty_append] at aj ⊢;rw[<-aF] at aj;exact⟨_,_,hr,aj.1,aj.2⟩
 by_cases af:n+k<=cap
 ·have aG:n*i.size+aa.length<=az.size:=by rw[hl,aO,<-Nat.add_mul];exact Nat.mul_le_mul_right _ af
  have aK:=run_storeCells_at P g (n*i.size) e aa 0 az w hg (by simpa using aG) h1;simp only[Nat.add_zero] at aK;have hw:IntKind.i64.wrap (k:Int)=k:=by rw[IntKind.wrap_i64];omega
  have aD:¬((k:Int)<0):=by omega
  have aI:¬(281474976710656<(k:Int)*(i.bytes:Int)):=by
   rw[<-Int.natCast_mul];omega
  have aM:¬(k*i.size=0):=Nat.mul_ne_zero (by omega) (by omega);have hr:(Builtin.append_ #[t,tn] ty #[.slice (some ⟨g,0,none⟩) n cap,.int kq k]).run P w=.ok (.slice (some ⟨g,0,none⟩) (n+k) cap) (w.setRow g (az.toList.take (n*i.size)++aa++az.toList.drop (n*i.size+aa.length)).toArray):=by
   simp[Builtin.append_,run_underlying ht,run_underlying aA,sizeOf,typeInfo,zeroValue,hi,hz,asInt,asIntOf,hw,aD,aI,aM,af,Addr.add_lit,aF,aK]
  refine⟨_,_,hr,⟨ah,.inr ⟨g,cap,_,rfl,aQ,setRow_heap w g az _ e _ hg,af,aH,?_,?_⟩⟩,⟨rfl,rfl,rfl,by simp,fun k _ hk=>setRow_other w g k _ (fun e=>hk (by simp[Value.ownBlock,e]))⟩⟩
  ·simp only[List.size_toArray,List.length_append,List.length_take,List.length_drop,Array.length_toList];omega
  rw[au,<-ah];exact List.take_left
 have holds:∀j u,xs[j]?=some u->w.cell? ((⟨g,0,none⟩:Addr).add j)=some u:=ae.cells (g:=g) rfl;have aC:(Builtin.firstCells i.size n (.slice (some ⟨g,0,none⟩) n cap)).run P w.drew=.ok xs.toArray w.drew:=run_firstCells_some w.drew i.size n _ n cap xs ae.1 holds;have hr:=Lib.run_append_grow_zeros (P:=P) w t tn ty e i z kq kn ht aA hi hz (some ⟨g,0,none⟩) n cap xs aC k h0 (by omega) (by omega) (by omega) ax (growslice_fits (by omega) ak);have aj:=grown cap (by omega) (Value.ownBlock (.slice (some ⟨g,0,none⟩) n cap));rw[<-aF] at aj;exact⟨_,_,hr,aj.1,aj.2⟩
end
theorem zTs (k:Nat) (w:World) (S:Nat->Prop):ZG Z6 w S (List.replicate k ZN) (Builtin.zeroCells zN.cells k).toList:=by
 induction k with
 |zero=>simp[Builtin.zeroCells,ZG]
 |
  succ k ih =>
  have h1:(Builtin.zeroCells zN.cells (k+1)).toList=(Builtin.zeroCells zN.cells k).toList++[.int .i64 0,.string ⟨#[]⟩,.int .i64 0,.slice none 0 0]:=by
   unfold Builtin.zeroCells;have h4:zN.cells.size=4:=rfl;rw[h4,Nat.add_mul,Nat.one_mul];simp only[Array.toList_map,Array.toList_range];rw[show k*4+4=k*4+1+1+1+1 from rfl,List.range_succ,List.range_succ,List.range_succ,List.range_succ];simp only[List.map_append,List.map_cons,List.map_nil,List.append_assoc,List.cons_append,List.nil_append];congr 1;have e0:k*4 % 4=0:=by omega
   have e1:(k*4+1) % 4=1:=by omega
   have e2:(k*4+1+1) % 4=2:=by omega
   have e3:(k*4+1+1+1) % 4=3:=by omega
   rw[e0,e1,e2,e3];rfl
  rw[h1,List.replicate_succ'];exact ih.append (ZG.single (Yl.2 ⟨_,rfl,by simp[Z4,ZN,Z9.kind],by simp[Z4,ZN,Z9.cols],Qj _,Z8.nil_ 0 (Qj _) none⟩))
theorem appZ {w:World} {b:Nat} {S:Nat->Prop} {xss:List Z9} {v:Value} {ops:Array Oper} {rest:List Oper} {o:Oper} {a:Act} {Q:Exit->Act->World->Prop} (ay:o.guard=none) (s x:Operand)
  (ho:o.op=.call { callee:=.builtin .append,args:=#[s,x],argTypes:=#[22,3] })
  (az:∀k,S k->k<b) (hs:a.eval s=v) (aa:Zq w b S xss v) (k:Nat) (h0:0<k) (hx:a.eval x=.int .i64 k)
  (ae:xss.length+k<=1000000000) (hb:b<=w.heap.size)
  (h:∀v' w',Zq w' b S (xss++List.replicate k ZN) v'->Below b w w'->wpList Tryz.prog ops Q rest (a.put o.dst v') w'):wpList Tryz.prog ops Q (o::rest) a w:=by
 obtain⟨i0,ax,au,ak,aj⟩:=info_parts Rn;obtain⟨cs,ag,av⟩:=aa;have af:=zTs k w S;obtain⟨v',w',hr,h3,h4⟩:=zR5 (P:=Tryz.prog) w b 22 3 o.type 24 i0 zN .i64 .i64 4 56 Tryz.underlying22 Tryz.underlying3 ax au ak aj rfl (by omega) v _ _ ag k h0 af.one (by simp only[maxLen];omega) (by omega) hb;have ah:=Un _ ag h4 hb;exact Lib.wpList_append_run w ay s x 22 3 ho v (.int .i64 k) hs hx v' w' hr (h v' w' ⟨cs++_,by rw[List.length_append,List.length_replicate];exact h3,(av.append af).keep (fun p hp=>ah.cell (az _ hp)) (fun _ h=>h)⟩ ah)
theorem zOl (op:ZL) (Ar An aA ax:Option Addr) (cr cn ay av:Nat) (w:World) (hr:Z0 w (Lt w.heap.size) op.row (.slice Ar op.row.length cr)) (hn:Z8 Z6 w (Lt w.heap.size) op.nodes (.slice An op.nodes.length cn)) (aF:Z0 w (Lt w.heap.size) op.row (.slice aA op.row.length ay)) (aG:Z8 Z6 w (Lt w.heap.size) op.nodes (.slice ax op.nodes.length av)) :
  Calls Tryz.prog 59 #[.agg (Zm op (.slice Ar op.row.length cr) (.slice An op.nodes.length cn)),.agg (Zm op (.slice aA op.row.length ay) (.slice ax op.nodes.length av))] w fun e w'=>e=.returned (.bool true)/\Below w.heap.size w w':=by
 obtain⟨W0,aC⟩:∃W0,(w.alloc (.cells (Zm op (.slice Ar op.row.length cr) (.slice An op.nodes.length cn)) 49)).alloc (.cells (Zm op (.slice aA op.row.length ay) (.slice ax op.nodes.length av)) 49)=W0:=⟨_,rfl⟩;have ae:Below w.heap.size w W0:=by rw[<-aC];exact Zy (ZW _ _) _
 have af:Z5 W0 w.heap.size (.cells (Zm op (.slice Ar op.row.length cr) (.slice An op.nodes.length cn)) 49):=by rw[<-aC];exact(Z5.at0 _ _).al _
 have aa:Z5 W0 (w.heap.size+1) (.cells (Zm op (.slice aA op.row.length ay) (.slice ax op.nodes.length av)) 49):=by rw[<-aC];exact Z5.at1 _ _ _
 have aJ:=aa.lt;have CS:Hid (∀n,Calls Tryz.prog 33 #[.slice An op.nodes.length cn,.slice ax op.nodes.length av] (W0.drewN n) fun e w'=>e=.returned (.bool true)/\Below (W0.drewN n).heap.size (W0.drewN n) w'):=fun n=>by
  have h:=zNr op.nodes op.nodes (W0.drewN n) _ _ ((hn.below ae ae.size).keep (fun _ _=>rfl) (fun _ h=>h)) ((aG.below ae ae.size).keep (fun _ _=>rfl) (fun _ h=>h));rwa[show (op.nodes.length==op.nodes.length&&Zl op.nodes op.nodes)=true by rw[beq_self_eq_true,((zKm op.nodes op.nodes).2 rfl).2];rfl] at h
 have HR:=hid (Qh (hr.below ae ae.size) (aF.below ae ae.size));have aL:=hid ae;obtain⟨_,_,rs,hq,aB,aj,aD,aH⟩:=HR.out.1;cases hq;obtain⟨_,_,rs',hq,au,ag,ah,ak⟩:=HR.out.2;cases hq;have az:=hid (Qh (Qh aD aH) (Qh ah ak));unfold maxLen at aj ag;have l0:op.row.length<=9223372036854775807:=by omega
 obtain⟨kind,row,at_,n,nodes,slot,old,text⟩:=op;simp only[Zm] at *;have m0:=af.cell 0;have m1:=af.cell 1;have m2:=af.cell 2;have m3:=af.cell 3;have m4:=af.cell 4;have m5:=af.cell 5;have m6:=af.cell 6;have m7:=af.cell 7;have n0:=aa.cell 0;have n1:=aa.cell 1;have n2:=aa.cell 2;have n3:=aa.cell 3;have n4:=aa.cell 4;have n5:=aa.cell 5;have n6:=aa.cell 6;have n7:=aa.cell 7;simp only[List.getElem?_toArray,List.getElem?_cons_zero,List.getElem?_cons_succ] at m0 m1 m2 m3 m4 m5 m6 m7 n0 n1 n2 n3 n4 n5 n6 n7;clear hr hn aF aG af aa ae aD aH ah ak aB aj au ag HR aJ;go_enter Tryz.func59,Tryz.ntmps59
 go_wp2_with fail
 go_loopw [5] (fun i wr=>(∃n,wr=W0.drewN n)/\∃(k:Nat),k<=row.length/\i=.int .i64 k) (fun i _=>row.length-(intOf i).toNat)
 case atStart=>exact⟨⟨0,rfl⟩,0,Qj _,rfl⟩
 obtain⟨⟨n,rfl⟩,k,hk,rfl⟩:=hrel;by_cases hx:k<row.length
 ·obtain⟨g,o,rfl,hg,hi,c0⟩:=X5 az.out.1.1 az.out.1.2 hx;obtain⟨g',o',rfl,hg',hi',c0'⟩:=X5 az.out.2.1 az.out.2.2 hx;have i1:(k:Int)<(row.length:Int):=by omega
  have i2:decide ((k:Int)<(row.length:Int))=true:=by rw[decide_eq_true_eq];omega
  have i3:(row[k] != row[k])=false:=by simp
  go_wp2_with fail
  go_quiet (fail)
  go_wp2_with fail
  go_roundw
  case rel=>exact⟨by first|exact⟨_,rfl⟩|(simp only[World.drewN_drewN];exact⟨_,rfl⟩),k+1,by omega,by go_num⟩
  case measure=>simp[intOf];omega
 have i2:decide ((k:Int)<(row.length:Int))=false:=by rw[decide_eq_false_iff_not];omega
 go_wp2_with fail
 refine(CS.out _).mono ?_;rintro e w2 ⟨rfl,aI⟩;have aK:=hid (Zo (Sj aL.out) aI);clear aI
 go_wp2_with fail
 go_ret;exact⟨rfl,aK.out⟩
theorem zMl (ops:List ZL) (Ao aB:Option Addr) (co aD:Nat) (w:World) (ho:Z8 Za w (Lt w.heap.size) ops (.slice Ao ops.length co)) (aC:Z8 Za w (Lt w.heap.size) ops (.slice aB ops.length aD)) :
  Calls Tryz.prog 28 #[.slice Ao ops.length co,.slice aB ops.length aD] w fun e w'=>e=.returned (.bool true)/\Below w.heap.size w w':=by
 have H:=hid (Qh ho aC);have hl0:ops.length<=9223372036854775807:=by
  obtain⟨_,_,_,hq,aQ,ay,_,_⟩:=ho;cases hq;unfold maxLen at ay;omega
 have HW:Hid (∀W,Below w.heap.size w W->∀k (hk:k<ops.length),∃g o g' o' Ar An aj ak cr cn ag ah,Ao=some ⟨g,o,none⟩/\aB=some ⟨g',o',none⟩/\(W.cell? ⟨g,o+k*8,none⟩=some (.int .i64 ops[k].kind)/\W.cell? ⟨g,o+k*8+1,none⟩=some (.slice Ar ops[k].row.length cr)/\W.cell? ⟨g,o+k*8+2,none⟩=some (.int .i64 ops[k].at_) /\
   W.cell? ⟨g,o+k*8+3,none⟩=some (.int .i64 ops[k].n)/\W.cell? ⟨g,o+k*8+4,none⟩=some (.slice An ops[k].nodes.length cn)/\W.cell? ⟨g,o+k*8+5,none⟩=some (.int .i64 ops[k].slot) /\
   W.cell? ⟨g,o+k*8+6,none⟩=some (.string ops[k].old)/\W.cell? ⟨g,o+k*8+7,none⟩=some (.string ops[k].text))/\(W.cell? ⟨g',o'+k*8,none⟩=some (.int .i64 ops[k].kind)/\W.cell? ⟨g',o'+k*8+1,none⟩=some (.slice aj ops[k].row.length ag)/\W.cell? ⟨g',o'+k*8+2,none⟩=some (.int .i64 ops[k].at_) /\
   W.cell? ⟨g',o'+k*8+3,none⟩=some (.int .i64 ops[k].n)/\W.cell? ⟨g',o'+k*8+4,none⟩=some (.slice ak ops[k].nodes.length ah)/\W.cell? ⟨g',o'+k*8+5,none⟩=some (.int .i64 ops[k].slot) /\
   W.cell? ⟨g',o'+k*8+6,none⟩=some (.string ops[k].old)/\W.cell? ⟨g',o'+k*8+7,none⟩=some (.string ops[k].text)) /\
   Hid (∀W2,Below W.heap.size W W2->Calls Tryz.prog 59 #[.agg (Zm ops[k] (.slice Ar ops[k].row.length cr) (.slice An ops[k].nodes.length cn)),.agg (Zm ops[k] (.slice aj ops[k].row.length ag) (.slice ak ops[k].nodes.length ah))] W2 fun e w'=>e=.returned (.bool true)/\Below W2.heap.size W2 w')):=by
  intro W hW k hk;obtain⟨_,_,rso,hq,_,_,ax,az⟩:=H.out.1.below hW hW.size;cases hq;obtain⟨g,o,Ar,An,cr,cn,e,hg,p0,p1,p2,p3,p4,p5,p6,p7,hr,hn,h1,h2,_⟩:=zLf ax az hk;obtain⟨_,_,aF,hq,_,_,au,av⟩:=H.out.2.below hW hW.size;cases hq;obtain⟨g',o',aj,ak,ag,ah,e',hg',aN,aM,aL,aK,aJ,aI,aH,aG,aO,aP,h1',h2',_⟩:=zLf au av hk;exact⟨g,o,g',o',Ar,An,aj,ak,cr,cn,ag,ah,e,e',⟨p0,p1,p2,p3,p4,p5,p6,p7⟩,⟨aN,aM,aL,aK,aJ,aI,aH,aG⟩,fun W2 af=>zOl ops[k] Ar An aj ak cr cn ag ah W2 (hr.below af af.size) (hn.below af af.size) (aO.below af af.size) (aP.below af af.size)⟩
 clear ho aC H;go_enter Tryz.func28,Tryz.ntmps28
 go_wp2_with fail
 go_loopw [5] (fun i wr=>Below w.heap.size w wr/\∃(k:Nat),k<=ops.length/\i=.int .i64 k) (fun i _=>ops.length-(intOf i).toNat)
 case atStart=>exact⟨Qg _ _,0,Qj _,rfl⟩
 obtain⟨hb,k,hk,rfl⟩:=hrel;by_cases hx:k<ops.length
 ·obtain⟨g,o,g',o',Ar,An,aj,ak,cr,cn,ag,ah,rfl,rfl,⟨p0,p1,p2,p3,p4,p5,p6,p7⟩,⟨q0,q1,q2,q3,q4,q5,q6,q7⟩,CS⟩:=HW.out wr hb k hx;have HB:=hid hb;have i0:(0:Int)<=(k:Int):=by omega
  have i1:(k:Int)<(ops.length:Int):=by omega
  have i2:decide ((k:Int)<(ops.length:Int))=true:=by rw[decide_eq_true_eq];omega
  have ae:g<wr.heap.size:=World.block_lt_of_cell? wr _ p0;have aa:g'<wr.heap.size:=World.block_lt_of_cell? wr _ q0;have KO:Hid (∀W,Below wr.heap.size wr W->(W.cell? ⟨g,o+k*8,none⟩=some (.int .i64 ops[k].kind)/\W.cell? ⟨g,o+k*8+1,none⟩=some (.slice Ar ops[k].row.length cr)/\W.cell? ⟨g,o+k*8+2,none⟩=some (.int .i64 ops[k].at_)/\W.cell? ⟨g,o+k*8+3,none⟩=some (.int .i64 ops[k].n)/\W.cell? ⟨g,o+k*8+4,none⟩=some (.slice An ops[k].nodes.length cn)/\W.cell? ⟨g,o+k*8+5,none⟩=some (.int .i64 ops[k].slot)/\W.cell? ⟨g,o+k*8+6,none⟩=some (.string ops[k].old)/\W.cell? ⟨g,o+k*8+7,none⟩=some (.string ops[k].text))/\(W.cell? ⟨g',o'+k*8,none⟩=some (.int .i64 ops[k].kind)/\W.cell? ⟨g',o'+k*8+1,none⟩=some (.slice aj ops[k].row.length ag)/\W.cell? ⟨g',o'+k*8+2,none⟩=some (.int .i64 ops[k].at_)/\W.cell? ⟨g',o'+k*8+3,none⟩=some (.int .i64 ops[k].n)/\W.cell? ⟨g',o'+k*8+4,none⟩=some (.slice ak ops[k].nodes.length ah)/\W.cell? ⟨g',o'+k*8+5,none⟩=some (.int .i64 ops[k].slot)/\W.cell? ⟨g',o'+k*8+6,none⟩=some (.string ops[k].old)/\W.cell? ⟨g',o'+k*8+7,none⟩=some (.string ops[k].text))):=fun W hW=>⟨⟨(hW.cell (p:=⟨g,_,none⟩) ae).trans p0,(hW.cell (p:=⟨g,_,none⟩) ae).trans p1,(hW.cell (p:=⟨g,_,none⟩) ae).trans p2,(hW.cell (p:=⟨g,_,none⟩) ae).trans p3,(hW.cell (p:=⟨g,_,none⟩) ae).trans p4,(hW.cell (p:=⟨g,_,none⟩) ae).trans p5,(hW.cell (p:=⟨g,_,none⟩) ae).trans p6,(hW.cell (p:=⟨g,_,none⟩) ae).trans p7⟩,⟨(hW.cell (p:=⟨g',_,none⟩) aa).trans q0,(hW.cell (p:=⟨g',_,none⟩) aa).trans q1,(hW.cell (p:=⟨g',_,none⟩) aa).trans q2,(hW.cell (p:=⟨g',_,none⟩) aa).trans q3,(hW.cell (p:=⟨g',_,none⟩) aa).trans q4,(hW.cell (p:=⟨g',_,none⟩) aa).trans q5,(hW.cell (p:=⟨g',_,none⟩) aa).trans q6,(hW.cell (p:=⟨g',_,none⟩) aa).trans q7⟩⟩
  clear hb ae aa;generalize ops[k]=op at *;obtain⟨kind,row,at_,n,nodes,slot,old,text⟩:=op;simp only[Zm] at *
  go_wp2_with fail
  go_region_held3 (fun w'=>(w'.cell? ⟨g,o+k*8,none⟩=some (.int .i64 kind)/\w'.cell? ⟨g,o+k*8+1,none⟩=some (.slice Ar row.length cr)/\w'.cell? ⟨g,o+k*8+2,none⟩=some (.int .i64 at_)/\w'.cell? ⟨g,o+k*8+3,none⟩=some (.int .i64 n)/\w'.cell? ⟨g,o+k*8+4,none⟩=some (.slice An nodes.length cn)/\w'.cell? ⟨g,o+k*8+5,none⟩=some (.int .i64 slot)/\w'.cell? ⟨g,o+k*8+6,none⟩=some (.string old)/\w'.cell? ⟨g,o+k*8+7,none⟩=some (.string text)) /\
    (w'.cell? ⟨g',o'+k*8,none⟩=some (.int .i64 kind)/\w'.cell? ⟨g',o'+k*8+1,none⟩=some (.slice aj row.length ag)/\w'.cell? ⟨g',o'+k*8+2,none⟩=some (.int .i64 at_)/\w'.cell? ⟨g',o'+k*8+3,none⟩=some (.int .i64 n)/\w'.cell? ⟨g',o'+k*8+4,none⟩=some (.slice ak nodes.length ah)/\w'.cell? ⟨g',o'+k*8+5,none⟩=some (.int .i64 slot)/\w'.cell? ⟨g',o'+k*8+6,none⟩=some (.string old)/\w'.cell? ⟨g',o'+k*8+7,none⟩=some (.string text))) (first|go_keep|trivial) (first
   |(go_at_call 59;refine(CS.out _ (Qg _ _).drew).mono ?_;rintro e w3 ⟨rfl,aA⟩;have aS:=hid (Zo HB.out (Xo aA));have aR:=hid (Xo aA);clear aA;obtain⟨⟨p0,p1,p2,p3,p4,p5,p6,p7⟩,⟨q0,q1,q2,q3,q4,q5,q6,q7⟩⟩:=KO.out w3 aR.out)
   |fail)
  go_wp2_with fail
  go_roundw
  case rel=>exact⟨aS.out,k+1,by omega,by go_num⟩
  case measure=>simp[intOf];omega
 have i2:decide ((k:Int)<(ops.length:Int))=false:=by rw[decide_eq_false_iff_not];omega
 have HB:=hid hb;clear hb
 go_wp2_with fail
 go_ret;exact⟨rfl,HB.out⟩
theorem zHr (p m:List Int) (Ap Am ag ah:Option Addr) (cp cm ae af:Nat) (w:World) (hp:Z0 w (Lt w.heap.size) p (.slice Ap p.length cp)) (hm:Z0 w (Lt w.heap.size) m (.slice Am m.length cm)) (av:Z0 w (Lt w.heap.size) p (.slice ag p.length ae)) (ax:Z0 w (Lt w.heap.size) m (.slice ah m.length af)) :
  Calls Tryz.prog 12 #[.agg #[.slice Ap p.length cp,.slice Am m.length cm],.agg #[.slice ag p.length ae,.slice ah m.length af]] w fun e w'=>e=.returned (.bool true)/\Below w.heap.size w w':=by
 obtain⟨W0,au⟩:∃W0,(w.alloc (.cells #[.slice Ap p.length cp,.slice Am m.length cm] 27)).alloc (.cells #[.slice ag p.length ae,.slice ah m.length af] 27)=W0:=⟨_,rfl⟩;have aa:Below w.heap.size w W0:=by rw[<-au];exact Zy (ZW _ _) _
 have ak:Z5 W0 w.heap.size (.cells #[.slice Ap p.length cp,.slice Am m.length cm] 27):=by rw[<-au];exact(Z5.at0 _ _).al _
 have aj:Z5 W0 (w.heap.size+1) (.cells #[.slice ag p.length ae,.slice ah m.length af] 27):=by rw[<-au];exact Z5.at1 _ _ _
 have C1:Hid (Calls Tryz.prog 18 #[.slice Ap p.length cp,.slice ag p.length ae] W0 fun e w'=>e=.returned (.bool true)/\∃n,w'=W0.drewN n):=by
  have h:=zPl p p W0 _ _ _ _ (hp.below aa aa.size) (av.below aa aa.size);rwa[show decide (ZX p p=0)=true by rw[decide_eq_true_eq,zE8]] at h
 have C2:Hid (∀n,Calls Tryz.prog 18 #[.slice Am m.length cm,.slice ah m.length af] (W0.drewN n) fun e w'=>e=.returned (.bool true)/\∃k,w'=(W0.drewN n).drewN k):=fun n=>by
  have h:=zPl m m (W0.drewN n) _ _ (Lt W0.heap.size) (Lt W0.heap.size) ((hm.below aa aa.size).keep (fun _ _=>rfl) (fun _ h=>h)) ((ax.below aa aa.size).keep (fun _ _=>rfl) (fun _ h=>h));rwa[show decide (ZX m m=0)=true by rw[decide_eq_true_eq,zE8]] at h
 have ay:=hid aa;have m0:=ak.cell 0;have m1:=ak.cell 1;have n0:=aj.cell 0;have n1:=aj.cell 1;simp only[List.getElem?_toArray,List.getElem?_cons_zero,List.getElem?_cons_succ] at m0 m1 n0 n1;clear hp hm av ax aa ak aj;go_enter Tryz.func12,Tryz.ntmps12
 go_wp2_with fail
 refine C1.out.mono ?_;rintro e w1 ⟨rfl,n,rfl⟩
 go_wp2_with fail
 refine(C2.out _).mono ?_;rintro e w2 ⟨rfl,n2,rfl⟩
 go_wp2_with fail
 go_ret;exact⟨rfl,by first|exact Sj (Sj ay.out)|exact Sj ay.out⟩
theorem zOk (r:Ze) (Ao Ap Am Aq An:Option Addr) (co cp cm cq cn:Nat) (ax aj au ah ak:Option Addr) (av ae ag aa af:Nat) (w:World)
  (h0:Z8 Za w (Lt w.heap.size) r.ops (.slice Ao r.ops.length co)) (h1:Z0 w (Lt w.heap.size) r.bp (.slice Ap r.bp.length cp)) (h2:Z0 w (Lt w.heap.size) r.bm (.slice Am r.bm.length cm)) (h3:Z0 w (Lt w.heap.size) r.ap (.slice Aq r.ap.length cq)) (h4:Z0 w (Lt w.heap.size) r.am (.slice An r.am.length cn))
  (k0:Z8 Za w (Lt w.heap.size) r.ops (.slice ax r.ops.length av)) (k1:Z0 w (Lt w.heap.size) r.bp (.slice aj r.bp.length ae)) (k2:Z0 w (Lt w.heap.size) r.bm (.slice au r.bm.length ag)) (k3:Z0 w (Lt w.heap.size) r.ap (.slice ah r.ap.length aa)) (k4:Z0 w (Lt w.heap.size) r.am (.slice ak r.am.length af)) :
  Calls Tryz.prog 9 #[.agg #[.slice Ao r.ops.length co,.slice Ap r.bp.length cp,.slice Am r.bm.length cm,.slice Aq r.ap.length cq,.slice An r.am.length cn],.agg #[.slice ax r.ops.length av,.slice aj r.bp.length ae,.slice au r.bm.length ag,.slice ah r.ap.length aa,.slice ak r.am.length af]] w fun e w'=>e=.returned (.bool true)/\Below w.heap.size w w':=by
 obtain⟨ops,bp,bm,ap,am⟩:=r;simp only at *;obtain⟨W0,aA⟩:∃W0,(w.alloc (.cells #[.slice Ao ops.length co,.slice Ap bp.length cp,.slice Am bm.length cm,.slice Aq ap.length cq,.slice An am.length cn] 35)).alloc (.cells #[.slice ax ops.length av,.slice aj bp.length ae,.slice au bm.length ag,.slice ah ap.length aa,.slice ak am.length af] 35)=W0:=⟨_,rfl⟩;have az:Below w.heap.size w W0:=by rw[<-aA];exact Zy (ZW _ _) _
 have aC:Z5 W0 w.heap.size (.cells #[.slice Ao ops.length co,.slice Ap bp.length cp,.slice Am bm.length cm,.slice Aq ap.length cq,.slice An am.length cn] 35):=by rw[<-aA];exact(Z5.at0 _ _).al _
 have aB:Z5 W0 (w.heap.size+1) (.cells #[.slice ax ops.length av,.slice aj bp.length ae,.slice au bm.length ag,.slice ah ap.length aa,.slice ak am.length af] 35):=by rw[<-aA];exact Z5.at1 _ _ _
 have C0:Hid (∀W,Below w.heap.size w W->Calls Tryz.prog 28 #[.slice Ao ops.length co,.slice ax ops.length av] W fun e w'=>e=.returned (.bool true)/\Below W.heap.size W w'):=fun W hW=>zMl ops Ao ax co av W (h0.below hW hW.size) (k0.below hW hW.size)
 have C1:Hid (∀W,Below w.heap.size w W->Calls Tryz.prog 12 #[.agg #[.slice Ap bp.length cp,.slice Am bm.length cm],.agg #[.slice aj bp.length ae,.slice au bm.length ag]] W fun e w'=>e=.returned (.bool true)/\Below W.heap.size W w'):=fun W hW=>zHr bp bm Ap Am aj au cp cm ae ag W (h1.below hW hW.size) (h2.below hW hW.size) (k1.below hW hW.size) (k2.below hW hW.size)
 have C2:Hid (∀W,Below w.heap.size w W->Calls Tryz.prog 12 #[.agg #[.slice Aq ap.length cq,.slice An am.length cn],.agg #[.slice ah ap.length aa,.slice ak am.length af]] W fun e w'=>e=.returned (.bool true)/\Below W.heap.size W w'):=fun W hW=>zHr ap am Aq An ah ak cq cn aa af W (h3.below hW hW.size) (h4.below hW hW.size) (k3.below hW hW.size) (k4.below hW hW.size)
 have KB:Hid (∀W,Below W0.heap.size W0 W->(W.cell? ⟨w.heap.size,1,none⟩=some (.slice Ap bp.length cp)/\W.cell? ⟨w.heap.size,2,none⟩=some (.slice Am bm.length cm)/\W.cell? ⟨w.heap.size,3,none⟩=some (.slice Aq ap.length cq)/\W.cell? ⟨w.heap.size,4,none⟩=some (.slice An am.length cn))/\(W.cell? ⟨w.heap.size+1,1,none⟩=some (.slice aj bp.length ae)/\W.cell? ⟨w.heap.size+1,2,none⟩=some (.slice au bm.length ag)/\W.cell? ⟨w.heap.size+1,3,none⟩=some (.slice ah ap.length aa)/\W.cell? ⟨w.heap.size+1,4,none⟩=some (.slice ak am.length af))/\Below w.heap.size w W):=fun W hW=>by
  have h1:=aC.below hW;have h2:=aB.below hW;exact⟨⟨h1.cell 1,h1.cell 2,h1.cell 3,h1.cell 4⟩,⟨h2.cell 1,h2.cell 2,h2.cell 3,h2.cell 4⟩,az.trans (hW.mono az.size)⟩
 have aH:=hid az;have m0:=aC.cell 0;have n0:=aB.cell 0;simp only[List.getElem?_toArray,List.getElem?_cons_zero,List.getElem?_cons_succ] at m0 n0;clear h0 h1 h2 h3 h4 k0 k1 k2 k3 k4 az aC aB;go_enter Tryz.func9,Tryz.ntmps9
 go_wp2_with fail
 refine(C0.out _ aH.out).mono ?_;rintro e w1 ⟨rfl,aD⟩;clear m0 n0 aA;obtain⟨⟨m1,m2,m3,m4⟩,⟨n1,n2,n3,n4⟩,ay⟩:=KB.out w1 aD;have HT:=hid aD;have HK:=hid ay;clear aD ay
 go_wp2_with fail
 refine(C1.out _ HK.out).mono ?_;rintro e w2 ⟨rfl,aG⟩;have HT:=hid (Zo HT.out aG);clear aG m1 m2 m3 m4 n1 n2 n3 n4;obtain⟨⟨m1,m2,m3,m4⟩,⟨n1,n2,n3,n4⟩,ay⟩:=KB.out w2 HT.out;have HK:=hid ay;clear ay
 go_wp2_with fail
 refine(C2.out _ HK.out).mono ?_;rintro e w3 ⟨rfl,aF⟩;have HK:=hid (Zo HK.out aF);clear aF m1 m2 m3 m4 n1 n2 n3 n4
 go_wp2_with fail
 go_ret;exact⟨rfl,HK.out⟩
end Go.Proofs.YthpngeboknmllaaGreat
namespace Go.Proofs.YthpngeboknmllaaGreat
open Go.RowKit Go.ChangeShapes Go.WideShapes Go.ChangeAt
theorem own:ownKnob Tryz.prog.godebug=none:=by kernel_rfl
theorem Tc:laidOutB Tryz.prog=true:=by kernel_rfl
theorem Tv:Tryz.prog.readableRec 24=true/\24<Tryz.prog.types.size:=⟨by kernel_rfl,of_decide_eq_true (by kernel_rfl)⟩
section
variable {H:Type} {enc:TypeId×Value->H} {w:World} {base:Nat} {spare:Nat->Bool} {held:Bool}
theorem zP3 {r:Reach} {b0:Nat} {v:Value} {d:DataW H} {ps:List MemPlace} (hv:Value.okWide Tryz.prog w r b0 24 v) (h:DataW.Trod enc Tryz.prog w base spare held 24 v d ps) :
  ∃(t:Z9) (A:Option Addr) (c:Nat),v=.agg #[.int .i64 t.kind,.string t.text,.int .i64 t.cols,.slice A t.kids.length c]/\Z4 t.kind/\Z4 t.cols/\t.text.size<=maxLen/\QW w (Lt w.heap.size) t.kids (.slice A t.kids.length c):=by
 obtain⟨cs,rfl,hsz⟩:=okWide_struct Tryz.underlying24 hv;obtain⟨aa,hf⟩:=h;obtain⟨t,ht⟩:=zPs aa _ _ hf;obtain⟨v,ae,h1,h2,h3,h4⟩:=Yl.1 ht;obtain⟨A,c,rfl⟩:=h4.form;refine⟨t,A,c,?_,h1,h2,h3,h4⟩;congr 1;exact Array.toList_inj.1 ae
end
theorem zPt:Tryz.prog.readableRec 27=true/\27<Tryz.prog.types.size:=⟨by kernel_rfl,of_decide_eq_true (by kernel_rfl)⟩
theorem zUm:Tryz.prog.readableRec 30=true/\30<Tryz.prog.types.size:=⟨by kernel_rfl,of_decide_eq_true (by kernel_rfl)⟩
theorem zUz:Tryz.prog.cellsOf 4=1:=by kernel_rfl
section
variable {H:Type} {enc:TypeId×Value->H} {w:World} {base:Nat} {spare:Nat->Bool} {held:Bool}
theorem zU7 {fuel:Nat} {cs:List Value} {x:DataW H×List MemPlace} (h:DataW.trod enc Tryz.prog w base spare held fuel 4 cs=some x):∃b,cs=[.bool b]:=by
 obtain⟨b,rfl,_⟩:=DataW.trod_bool Tryz.underlying4 h;exact⟨b,rfl⟩
theorem zMc:Tryz.prog.cellsOf 27=2:=by kernel_rfl
theorem zMm {fuel:Nat} {cs:List Value} {x:DataW H×List MemPlace} (h:DataW.trod enc Tryz.prog w base spare held fuel 27 cs=some x):∃p m vp vm,cs=[vp,vm]/\Z0 w (Lt w.heap.size) p vp/\Z0 w (Lt w.heap.size) m vm:=by
 obtain⟨xs,n,hfu,hx,aa,af,hf⟩:=DataW.trod_struct Tryz.underlying27 h;rw[zMc] at aa
 match cs,aa with
 |
  [c0,c1],_ =>
  have g0:DataW.trod enc Tryz.prog w base spare held n 25 (([c0,c1].drop 0).take (Tryz.prog.cellsOf 25))=xs[0]?:=hf 0 _ rfl;rw[zJw] at g0;have f0:DataW.trod enc Tryz.prog w base spare held n 25 [c0]=xs[0]?:=g0;have g1:DataW.trod enc Tryz.prog w base spare held n 25 (([c0,c1].drop 1).take (Tryz.prog.cellsOf 25))=xs[1]?:=hf 1 _ rfl;rw[zJw] at g1;have f1:DataW.trod enc Tryz.prog w base spare held n 25 [c1]=xs[1]?:=g1;have ae:xs.length=2:=af;obtain⟨y0,e0⟩:=Vx f0 (by omega);obtain⟨y1,e1⟩:=Vx f1 (by omega);obtain⟨a0,v0,q0,h0⟩:=zK9 e0;obtain⟨a1,v1,q1,h1⟩:=zK9 e1;simp only[List.cons.injEq,and_true] at q0 q1;subst q0 q1;exact⟨a0,a1,_,_,rfl,h0,h1⟩
theorem zMu {r:Reach} {b0:Nat} {v:Value} {d:DataW H} {ps:List MemPlace} (hv:Value.okWide Tryz.prog w r b0 27 v) (h:DataW.Trod enc Tryz.prog w base spare held 27 v d ps) :
  ∃(p m:List Int) (Ap Am:Option Addr) (cp cm:Nat),v=.agg #[.slice Ap p.length cp,.slice Am m.length cm]/\Z0 w (Lt w.heap.size) p (.slice Ap p.length cp)/\Z0 w (Lt w.heap.size) m (.slice Am m.length cm):=by
 obtain⟨cs,rfl,hsz⟩:=okWide_struct Tryz.underlying27 hv;obtain⟨ae,hf⟩:=h;obtain⟨p,m,vp,vm,aa,h1,h2⟩:=zMm hf;obtain⟨Ap,cp,rfl⟩:=h1.form;obtain⟨Am,cm,rfl⟩:=h2.form;refine⟨p,m,Ap,Am,cp,cm,?_,h1,h2⟩;congr 1;exact Array.toList_inj.1 aa
theorem zS9:Tryz.prog.cellsOf 30=5:=by kernel_rfl
theorem zTf {fuel:Nat} {cs:List Value} {x:DataW H×List MemPlace} (h:DataW.trod enc Tryz.prog w base spare held fuel 30 cs=some x):∃(k:Int) (l:List Z9) (vl:Value) (s:Int) (x:ByteArray) (f:Bool),cs=[.int .i64 k,vl,.int .i64 s,.string x,.bool f]/\Z4 k/\QW w (Lt w.heap.size) l vl/\Z4 s/\x.size<=maxLen:=by
 obtain⟨xs,n,hfu,hx,aa,af,hf⟩:=DataW.trod_struct Tryz.underlying30 h;rw[zS9] at aa
 match cs,aa with
 |
  [c0,c1,c2,c3,c4],_ =>
  have g0:DataW.trod enc Tryz.prog w base spare held n 3 (([c0,c1,c2,c3,c4].drop 0).take (Tryz.prog.cellsOf 3))=xs[0]?:=hf 0 _ rfl;rw[zIo] at g0;have f0:DataW.trod enc Tryz.prog w base spare held n 3 [c0]=xs[0]?:=g0;have g1:DataW.trod enc Tryz.prog w base spare held n 22 (([c0,c1,c2,c3,c4].drop 1).take (Tryz.prog.cellsOf 22))=xs[1]?:=hf 1 _ rfl;rw[zNg] at g1;have f1:DataW.trod enc Tryz.prog w base spare held n 22 [c1]=xs[1]?:=g1;have g2:DataW.trod enc Tryz.prog w base spare held n 3 (([c0,c1,c2,c3,c4].drop 2).take (Tryz.prog.cellsOf 3))=xs[2]?:=hf 2 _ rfl;rw[zIo] at g2;have f2:DataW.trod enc Tryz.prog w base spare held n 3 [c2]=xs[2]?:=g2;have g3:DataW.trod enc Tryz.prog w base spare held n 9 (([c0,c1,c2,c3,c4].drop 3).take (Tryz.prog.cellsOf 9))=xs[3]?:=hf 3 _ rfl;rw[zQq] at g3;have f3:DataW.trod enc Tryz.prog w base spare held n 9 [c3]=xs[3]?:=g3;have g4:DataW.trod enc Tryz.prog w base spare held n 4 (([c0,c1,c2,c3,c4].drop 4).take (Tryz.prog.cellsOf 4))=xs[4]?:=hf 4 _ rfl;rw[zUz] at g4;have f4:DataW.trod enc Tryz.prog w base spare held n 4 [c4]=xs[4]?:=g4;have ae:xs.length=5:=af;obtain⟨y0,e0⟩:=Vx f0 (by omega);obtain⟨y1,e1⟩:=Vx f1 (by omega);obtain⟨y2,e2⟩:=Vx f2 (by omega);obtain⟨y3,e3⟩:=Vx f3 (by omega);obtain⟨y4,e4⟩:=Vx f4 (by omega);obtain⟨a0,q0,h0⟩:=zJ9 e0;obtain⟨a1,v1,q1,h1⟩:=zUl e1;obtain⟨a2,q2,h2⟩:=zJ9 e2;obtain⟨a3,q3,h3⟩:=zT5 e3;obtain⟨a4,q4⟩:=zU7 e4;simp only[List.cons.injEq,and_true] at q0 q1 q2 q3 q4;subst q0 q1 q2 q3 q4;exact⟨a0,a1,_,a2,a3,a4,rfl,h0,h1,h2,h3⟩
theorem zTg {r:Reach} {b0:Nat} {v:Value} {d:DataW H} {ps:List MemPlace} (hv:Value.okWide Tryz.prog w r b0 30 v) (h:DataW.Trod enc Tryz.prog w base spare held 30 v d ps) :
  ∃(k:Int) (l:List Z9) (An:Option Addr) (cn:Nat) (s:Int) (x:ByteArray) (f:Bool),v=.agg #[.int .i64 k,.slice An l.length cn,.int .i64 s,.string x,.bool f]/\Z4 k/\QW w (Lt w.heap.size) l (.slice An l.length cn)/\Z4 s/\x.size<=maxLen:=by
 obtain⟨cs,rfl,hsz⟩:=okWide_struct Tryz.underlying30 hv;obtain⟨ae,hf⟩:=h;obtain⟨k,l,vl,s,x,f,aa,h1,h2,h3,h4⟩:=zTf hf;obtain⟨An,cn,rfl⟩:=h2.form;refine⟨k,l,An,cn,s,x,f,?_,h1,h2,h3,h4⟩;congr 1;exact Array.toList_inj.1 aa
end
