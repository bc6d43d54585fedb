/- T -/
import Derived.Test.YthpngeboknmllaaGreatRows
import Derived.WalkKit
import Derived.WalkSpells
import Derived.WalkLawsBesides
import Derived.Handy
import Derived.Maps.AppendAt
import Derived.Deep.AppendLies
import Derived.Deep.Draws
import Derived.Deep.Slices
set_option linter.unusedVariables false
set_option linter.unusedSimpArgs false
namespace Go.Proofs.YthpngeboknmllaaGreat
open Go.RowKit
theorem QV {a b c:Nat} (h:a<b) (k:b<=c):a<c:=Nat.lt_of_lt_of_le h k
theorem QU (n:Nat):0<=n:=Nat.zero_le n
theorem QT (n:Nat):n<=n:=Nat.le_refl n
theorem QS {a b:Prop} (x:a) (y:b):a/\b:=⟨x,y⟩
theorem QQ (B:Nat) (w:World):Below B w w:=Below.refl B w
theorem QP {a b c:Nat} (h:a<=b) (k:b<=c):a<=c:=Nat.le_trans h k
theorem hid {p:Prop} (h:p):Hid p:=h
theorem zPb (a:Addr) (i j:Nat):(a.add i).add j=a.add (i+j):=by
 unfold Addr.add;by_cases hi:i=0<;>by_cases hj:j=0<;>simp[hi,hj,Nat.add_assoc]
def Lt (B k:Nat):Prop:=k<B
theorem Lt.mono {B B':Nat} (h:B<=B'):∀k,Lt B k->Lt B' k:=fun _ hk=>QV hk h
def Zl (w:World) (S:Nat->Prop) (A:Option Addr) (cs:List Value):Prop :=
 0<cs.length->∃g o,A=some ⟨g,o,none⟩/\S g/\∀j u,cs[j]?=some u->w.cell? ⟨g,o+j,none⟩=some u
def Zy (S:Nat->Prop) (w w':World):Prop:=∀p:Addr,S p.block->w'.cell? p=w.cell? p
theorem Zy.of_below {B B':Nat} {w w':World} (h:Below B' w w') (hB:B<=B'):Zy (Lt B) w w':=fun p hp=>h.cell (QV hp hB)
theorem Zy.refl (S:Nat->Prop) (w:World):Zy S w w:=fun _ _=>rfl
section
variable {w w':World} {S S':Nat->Prop} {A:Option Addr} {cs:List Value}
theorem Zl.nil_:Zl w S A []:=fun h=>absurd h (by simp)
theorem Zl.keep (h:Zl w S A cs) (hk:Zy S w w') (hB:∀k,S k->S' k):Zl w' S' A cs:=fun hn=>by
 obtain⟨g,o,e,hb,hc⟩:=h hn;exact⟨g,o,e,hB _ hb,fun j u hu=>(hk _ hb).trans (hc j u hu)⟩
theorem Zl.add (h:Zl w S A cs):∀ad,A=some ad->∀j u,cs[j]?=some u->w.cell? (ad.add j)=some u:=by
 intro ad ha j u hu;have hj:j<cs.length:=(List.getElem?_eq_some_iff.1 hu).1;obtain⟨g,o,e,hb,hc⟩:=h (by omega);obtain rfl:ad=⟨g,o,none⟩:=by rw[ha] at e;injection e
 have:=hc j u hu;unfold Addr.add;split
 ·subst j;simpa using this
 exact this
theorem Zl.some_ (h:Zl w S A cs) (hn:0<cs.length):∃ad,A=some ad:=by
 obtain⟨g,o,e,_⟩:=h hn;exact⟨_,e⟩
theorem Zl.drop (h:Zl w S A cs) (k:Nat):Zl w S (A.map (·.add k)) (cs.drop k):=fun hn=>by
 simp at hn;obtain⟨g,o,e,hb,hc⟩:=h (by omega);subst e;refine⟨g,o+k,?_,hb,fun j u hu=>?_⟩
 ·simp only[Option.map_some,Addr.add];split<;>simp_all
 rw[Nat.add_assoc];exact hc _ u (by rw[<-hu,List.getElem?_drop])
theorem Zl.take (h:Zl w S A cs) (k:Nat):Zl w S A (cs.take k):=fun hn=>by
 simp at hn;obtain⟨g,o,e,hb,hc⟩:=h (by omega);refine⟨g,o,e,hb,fun j u hu=>hc j u ?_⟩;rw[List.getElem?_take] at hu;split at hu
 ·exact hu
 cases hu
end
structure YW (α:Type) where
 size:Nat
 R:World->(Nat->Prop)->α->List Value->Prop
 pos:0<size
 len:∀{w S x cs},R w S x cs->cs.length=size
 one:∀{w S x cs},R w S x cs->∀u∈cs,u.oneCell'=true
 keep:∀{w w' S S' x cs},R w S x cs->Zy S w w'->(∀k,S k->S' k)->R w' S' x cs
section
variable {α:Type} (E:YW α)
def ZK (w:World) (S:Nat->Prop):List α->List Value->Prop
 |[],cs=>cs=[]
 |x::xs,cs=>∃h r,cs=h++r/\E.R w S x h/\ZK w S xs r
variable {E} {w w':World} {S S':Nat->Prop} {xs ys:List α} {cs ds:List Value}
theorem ZK.len (h:ZK E w S xs cs):cs.length=xs.length*E.size:=by
 induction xs generalizing cs with
 |nil=>simp[ZK] at h;simp[h]
 |
  cons x xs ih =>
  obtain⟨c,r,rfl,hc,hr⟩:=h;rw[List.length_append,E.len hc,ih hr,List.length_cons,Nat.add_mul];omega
theorem ZK.one (h:ZK E w S xs cs):∀u∈cs,u.oneCell'=true:=by
 induction xs generalizing cs with
 |nil=>simp[ZK] at h;simp[h]
 |
  cons x xs ih =>
  obtain⟨c,r,rfl,hc,hr⟩:=h;intro u hu;rcases List.mem_append.1 hu with h1|h1
  ·exact E.one hc u h1
  exact ih hr u h1
theorem ZK.keep (h:ZK E w S xs cs) (hk:Zy S w w') (hB:∀k,S k->S' k):ZK E w' S' xs cs:=by
 induction xs generalizing cs with
 |nil=>exact h
 |
  cons x xs ih =>
  obtain⟨c,r,rfl,hc,hr⟩:=h;exact⟨c,r,rfl,E.keep hc hk hB,ih hr⟩
theorem ZK.append (h:ZK E w S xs cs) (k:ZK E w S ys ds):ZK E w S (xs++ys) (cs++ds):=by
 induction xs generalizing cs with
 |nil=>simp[ZK] at h;subst h;simpa using k
 |
  cons x xs ih =>
  obtain⟨c,r,rfl,hc,hr⟩:=h;exact⟨c,r++ds,by simp,hc,ih hr⟩
theorem ZK.single {x:α} (h:E.R w S x cs):ZK E w S [x] cs:=⟨cs,[],by simp,h,rfl⟩
theorem ZK.drop (h:ZK E w S xs cs) (k:Nat):ZK E w S (xs.drop k) (cs.drop (k*E.size)):=by
 induction k generalizing xs cs with
 |zero=>simpa using h
 |
  succ k ih =>
  cases xs with
  |nil=>simp[ZK] at h;subst h;simp[ZK]
  |
   cons x xs =>
   obtain⟨c,r,rfl,hc,hr⟩:=h;have:=ih hr;have hl:=E.len hc;rw[List.drop_succ_cons,show (k+1)*E.size=c.length+k*E.size by rw[hl,Nat.add_mul];omega,<-List.drop_drop,List.drop_left];exact this
theorem ZK.take (h:ZK E w S xs cs) (k:Nat):ZK E w S (xs.take k) (cs.take (k*E.size)):=by
 induction k generalizing xs cs with
 |zero=>simp[ZK]
 |
  succ k ih =>
  cases xs with
  |nil=>simp[ZK] at h;subst h;simp[ZK]
  |
   cons x xs =>
   obtain⟨c,r,rfl,hc,hr⟩:=h;have hl:=E.len hc;refine⟨c,r.take (k*E.size),?_,hc,ih hr⟩;rw[show (k+1)*E.size=c.length+k*E.size by rw[hl,Nat.add_mul];omega,List.take_length_add_append]
theorem ZK.at_ (h:ZK E w S xs cs) {k:Nat} (hk:k<xs.length):∃c,(cs.drop (k*E.size)).take E.size=c/\E.R w S xs[k] c/\∀j,j<E.size->cs[k*E.size+j]?=c[j]?:=by
 refine⟨_,rfl,?_,fun j hj=>?_⟩
 ·have h1:=h.drop k;rw[List.drop_eq_getElem_cons hk] at h1;obtain⟨c,r,e,hc,_⟩:=h1;rw[e,<-E.len hc,List.take_left];exact hc
 rw[List.getElem?_take,if_pos hj,List.getElem?_drop]
end
def Z8 {α:Type} (E:YW α) (w:World) (S:Nat->Prop) (xs:List α) (v:Value):Prop :=
 ∃A cap cs,v=.slice A xs.length cap/\xs.length<=cap/\cap<=maxLen/\Zl w S A cs/\ZK E w S xs cs
section
variable {α:Type} {E:YW α} {w w':World} {S S':Nat->Prop} {xs ys:List α} {v:Value}
theorem Z8.keep (h:Z8 E w S xs v) (hk:Zy S w w') (hB:∀k,S k->S' k):Z8 E w' S' xs v:=by
 obtain⟨A,cap,cs,rfl,h1,h2,h3,h4⟩:=h;exact⟨A,cap,cs,rfl,h1,h2,h3.keep hk hB,h4.keep hk hB⟩
theorem Z8.below {B B':Nat} (h:Z8 E w (Lt B) xs v) (hb:Below B w w') (hB:B<=B'):Z8 E w' (Lt B') xs v:=h.keep (Zy.of_below hb (QT _)) (Lt.mono hB)
theorem Z8.form (h:Z8 E w S xs v):∃A cap,v=.slice A xs.length cap:=by
 obtain⟨A,cap,cs,rfl,_⟩:=h;exact⟨A,cap,rfl⟩
theorem Z8.nil_ (c:Nat:=0) (hc:c<=maxLen) (A:Option Addr):Z8 E w S [] (.slice A 0 c):=⟨A,c,[],rfl,by simp,hc,Zl.nil_,rfl⟩
theorem Z8.cut {A:Option Addr} {n c:Nat} (h:Z8 E w S xs (.slice A n c)) (i j:Nat) (hij:i<=j) (hj:j<=n) :
  Z8 E w S ((xs.take j).drop i) (.slice (if c=i then A else A.map (·.add (i*E.size))) (j-i) (c-i)):=by
 obtain⟨A',cap,cs,e,h1,h2,h3,h4⟩:=h;injection e with e1 e2 e3
 subst e1 e2 e3;have aa:((xs.take j).drop i).length=j-i:=by simp;omega
 refine⟨_,_,(cs.take (j*E.size)).drop (i*E.size),by rw[aa],by omega,by omega,?_,(h4.take j).drop i⟩;split
 ·subst_vars
  have:((cs.take (j*E.size)).drop (i*E.size))=[]:=by
   apply List.drop_of_length_le;rw[List.length_take,h4.len];have:j*E.size<=i*E.size:=Nat.mul_le_mul_right _ (by omega);omega
  rw[this];exact Zl.nil_
 exact(h3.take _).drop _
theorem Z8.of_own {base e n:Nat} {cs:List Value} (h:w.ownsRow base e E.size v n cs) (hB:∀k,v.ownBlock=some k->S k) (hl:ZK E w S xs cs):Z8 E w S xs v:=by
 have aa:=hl.len;have hn:n=xs.length:=by
  have:=h.1;rw[aa] at this;exact(Nat.eq_of_mul_eq_mul_right E.pos this).symm
 subst hn;rcases h.2 with ⟨rfl,h0⟩|⟨g,cap,ae,rfl,hg,hh,h1,h2,h3,h4⟩
 ·obtain rfl:xs=[]:=List.eq_nil_of_length_eq_zero h0;exact⟨none,0,cs,rfl,by simp,by simp,fun hp=>by simp at aa;simp[aa] at hp,hl⟩
 refine⟨some ⟨g,0,none⟩,cap,cs,rfl,h1,h2,fun _=>⟨g,0,rfl,hB g rfl,fun j u hu=>?_⟩,hl⟩;rw[Nat.zero_add,cell_of_row w g j ae e (0,0) hh];rw[<-h4,List.getElem?_take] at hu;split at hu
 ·simpa using hu
 cases hu
end
def Z4 (x:Int):Prop:=-9223372036854775808<=x/\x<=9223372036854775807
def ZF:YW Int where
 size:=1
 R _ _ x cs:=cs=[.int .i64 x]/\Z4 x
 pos:=by omega
 len:=by rintro _ _ _ _ ⟨rfl,_⟩;rfl
 one:=by rintro _ _ _ _ ⟨rfl,_⟩;simp[Value.oneCell']
 keep:=fun h _ _=>h
theorem VD {w:World} {S:Nat->Prop} {xs:List Int} {cs:List Value}:ZK ZF w S xs cs↔cs=xs.map (.int .i64 ·)/\∀x∈xs,Z4 x:=by
 induction xs generalizing cs with
 |nil=>simp[ZK]
 |
  cons x xs ih =>
  constructor
  ·rintro ⟨h,r,rfl,⟨rfl,hx⟩,hr⟩;obtain⟨rfl,h2⟩:=ih.1 hr;exact⟨by simp,by simpa using⟨hx,h2⟩⟩
  rintro ⟨rfl,h2⟩;exact⟨[.int .i64 x],_,rfl,⟨rfl,h2 x (by simp)⟩,ih.2 ⟨rfl,fun y hy=>h2 y (by simp[hy])⟩⟩
abbrev Z0 (w:World) (S:Nat->Prop) (xs:List Int) (v:Value):Prop:=Z8 ZF w S xs v
def Xv {α:Type} (E:YW α):YW (List α) where
 size:=1
 R w S xs cs:=∃v,cs=[v]/\Z8 E w S xs v
 pos:=by omega
 len:=by rintro _ _ _ _ ⟨v,rfl,_⟩;rfl
 one:=by rintro _ _ _ _ ⟨v,rfl,A,cap,cs,rfl,_⟩;simp[Value.oneCell']
 keep:=by rintro _ _ _ _ _ _ ⟨v,rfl,h⟩ hk hB;exact⟨v,rfl,h.keep hk hB⟩
inductive Z9 where
 |mk (kind:Int) (text:ByteArray) (cols:Int) (kids:List Z9)
namespace Z9
def kind:Z9->Int|mk k _ _ _=>k
def text:Z9->ByteArray|mk _ s _ _=>s
def cols:Z9->Int|mk _ _ c _=>c
def kids:Z9->List Z9|mk _ _ _ ts=>ts
end Z9
mutual
def XU (w:World) (S:Nat->Prop):Z9->List Value->Prop
 |.mk k s c ts,cs=>∃A cap rs,cs=[.int .i64 k,.string s,.int .i64 c,.slice A ts.length cap]/\Z4 k/\Z4 c/\s.size<=maxLen/\ts.length<=cap/\cap<=maxLen/\Zl w S A rs/\Xi w S ts rs
def Xi (w:World) (S:Nat->Prop):List Z9->List Value->Prop
 |[],cs=>cs=[]
 |t::ts,cs=>∃h r,cs=h++r/\XU w S t h/\Xi w S ts r
end
theorem XU.len {w:World} {S:Nat->Prop} {t:Z9} {cs:List Value} (h:XU w S t cs):cs.length=4:=by
 cases t;unfold XU at h;obtain⟨A,cap,rs,rfl,_⟩:=h;rfl
theorem XU.one {w:World} {S:Nat->Prop} {t:Z9} {cs:List Value} (h:XU w S t cs):∀u∈cs,u.oneCell'=true:=by
 cases t;unfold XU at h;obtain⟨A,cap,rs,rfl,_⟩:=h;simp[Value.oneCell']
mutual
theorem XU.keep {w w':World} {S S':Nat->Prop} (hk:Zy S w w') (hB:∀k,S k->S' k):(t:Z9)->(cs:List Value)->XU w S t cs->XU w' S' t cs
 |
  .mk k s c ts,cs,h=>by
  unfold XU at h ⊢
  obtain⟨A,cap,rs,h1,h2,h3,h4,h5,h6,h7,h8⟩:=h
  exact⟨A,cap,rs,h1,h2,h3,h4,h5,h6,h7.keep hk hB,Xi.keep hk hB ts rs h8⟩
theorem Xi.keep {w w':World} {S S':Nat->Prop} (hk:Zy S w w') (hB:∀k,S k->S' k):(ts:List Z9)->(cs:List Value)->Xi w S ts cs->Xi w' S' ts cs
 |[],cs,h=>by unfold Xi at h ⊢;exact h
 |
  t::ts,cs,h=>by
  unfold Xi at h ⊢
  obtain⟨a,r,h1,h2,h3⟩:=h
  exact⟨a,r,h1,XU.keep hk hB t a h2,Xi.keep hk hB ts r h3⟩
end
def Z7:YW Z9 where
 size:=4
 R:=XU
 pos:=by omega
 len:=XU.len
 one:=XU.one
 keep:=fun h hk hB=>XU.keep hk hB _ _ h
theorem RO {w:World} {S:Nat->Prop} {ts:List Z9} {cs:List Value}:Xi w S ts cs↔ZK Z7 w S ts cs:=by
 induction ts generalizing cs with
 |nil=>simp[ZK,Xi]
 |
  cons t ts ih =>
  unfold Xi ZK;simp only[ih];rfl
theorem YI {w:World} {S:Nat->Prop} {t:Z9} {cs:List Value}:XU w S t cs↔∃v,cs=[.int .i64 t.kind,.string t.text,.int .i64 t.cols,v]/\Z4 t.kind/\Z4 t.cols/\t.text.size<=maxLen/\Z8 Z7 w S t.kids v:=by
 obtain⟨k,s,c,ts⟩:=t;unfold XU;simp only[Z9.kind,Z9.text,Z9.cols,Z9.kids];constructor
 ·rintro ⟨A,cap,rs,rfl,h1,h2,h3,h4,h5,h6,h7⟩;exact⟨_,rfl,h1,h2,h3,A,cap,rs,rfl,h4,h5,h6,RO.1 h7⟩
 rintro ⟨v,rfl,h1,h2,h3,A,cap,rs,rfl,h4,h5,h6,h7⟩;exact⟨A,cap,rs,rfl,h1,h2,h3,h4,h5,h6,RO.2 h7⟩
abbrev zOc (w:World) (S:Nat->Prop) (ts:List Z9) (v:Value):Prop:=Z8 Z7 w S ts v
structure ZB where
 kind:Int
 row:List Int
 at_:Int
 n:Int
 nodes:List Z9
 slot:Int
 old:ByteArray
 text:ByteArray
def OpR (w:World) (S:Nat->Prop) (d:ZB) (cs:List Value):Prop :=
 ∃
  vr vn,cs=[.int .i64 d.kind,vr,.int .i64 d.at_,.int .i64 d.n,vn,.int .i64 d.slot,.string d.old,.string d.text]/\Z4 d.kind/\Z4 d.at_/\Z4 d.n/\Z4 d.slot /\
  d.old.size<=maxLen/\d.text.size<=maxLen/\Z0 w S d.row vr/\zOc w S d.nodes vn
def Zb:YW ZB where
 size:=8
 R:=OpR
 pos:=by omega
 len:=by rintro _ _ _ _ ⟨_,_,rfl,_⟩;rfl
 one:=by
  rintro _ _ _ _ ⟨_,_,rfl,_,_,_,_,_,_,⟨A,cap,cs,rfl,_⟩,⟨A',cap',cs',rfl,_⟩⟩
  simp[Value.oneCell']
 keep:=by
  rintro _ _ _ _ _ _ ⟨vr,vn,rfl,h1,h2,h3,h4,h5,h6,h7,h8⟩ hk hB
  exact⟨vr,vn,rfl,h1,h2,h3,h4,h5,h6,h7.keep hk hB,h8.keep hk hB⟩
section
variable {α:Type} {E:YW α} {w:World} {S:Nat->Prop} {xs:List α}
theorem Sl {A:Option Addr} {cs:List Value} (h3:Zl w S A cs) (h4:ZK E w S xs cs) {k:Nat} (hk:k<xs.length) :
  ∃g o c,A=some ⟨g,o,none⟩/\S g/\E.R w S xs[k] c/\∀j u,c[j]?=some u->w.cell? ⟨g,o+k*E.size+j,none⟩=some u:=by
 obtain⟨c,_,hR,hj⟩:=h4.at_ hk;have hl:=h4.len;have aa:(k+1)*E.size<=xs.length*E.size:=Nat.mul_le_mul_right _ hk;rw[Nat.add_mul] at aa;have hp:=E.pos;obtain⟨g,o,e,hb,hc⟩:=h3 (by omega);refine⟨g,o,c,e,hb,hR,fun j u hu=>?_⟩;have ae:j<E.size:=by rw[<-E.len hR];exact(List.getElem?_eq_some_iff.1 hu).1
 rw[Nat.add_assoc];exact hc _ u (by rw[hj j ae];exact hu)
end
theorem YG {w:World} {S:Nat->Prop} {xs:List Int} {A:Option Addr} {cs:List Value} (h3:Zl w S A cs) (h4:ZK ZF w S xs cs) {k:Nat} (hk:k<xs.length) :
  ∃g o,A=some ⟨g,o,none⟩/\S g/\Z4 xs[k]/\w.cell? ⟨g,o+k,none⟩=some (.int .i64 xs[k]):=by
 obtain⟨g,o,c,e,hb,⟨rfl,hi⟩,hc⟩:=Sl h3 h4 hk;exact⟨g,o,e,hb,hi,by simpa[ZF] using hc 0 _ rfl⟩
theorem Y5 {w:World} {S:Nat->Prop} {ts:List Z9} {A:Option Addr} {cs:List Value} (h3:Zl w S A cs) (h4:ZK Z7 w S ts cs) {k:Nat} (hk:k<ts.length) :
  ∃
   g o A' cap' rs,A=some ⟨g,o,none⟩/\S g/\w.cell? ⟨g,o+k*4,none⟩=some (.int .i64 ts[k].kind)/\w.cell? ⟨g,o+k*4+1,none⟩=some (.string ts[k].text) /\
   w.cell? ⟨g,o+k*4+2,none⟩=some (.int .i64 ts[k].cols)/\w.cell? ⟨g,o+k*4+3,none⟩=some (.slice A' ts[k].kids.length cap') /\
   Z4 ts[k].kind/\Z4 ts[k].cols/\ts[k].text.size<=maxLen/\ts[k].kids.length<=cap'/\cap'<=maxLen/\Zl w S A' rs/\ZK Z7 w S ts[k].kids rs:=by
 obtain⟨g,o,c,e,hb,hR,hc⟩:=Sl h3 h4 hk;obtain⟨v,rfl,h1,h2,h3,A',cap',rs,rfl,h5,h6,h7,h8⟩:=YI.1 hR;exact⟨g,o,A',cap',rs,e,hb,by simpa[Z7] using hc 0 _ rfl,by simpa[Z7] using hc 1 _ rfl,by simpa[Z7] using hc 2 _ rfl,by simpa[Z7] using hc 3 _ rfl,h1,h2,h3,h5,h6,h7,h8⟩
theorem bcell {W w1:World} {B:Nat} (hb:Below B W w1):(∀b o,b<B->w1.cell? ⟨b,o,none⟩=W.cell? ⟨b,o,none⟩)/\(∀b o,b<B->w1.frozen? ⟨b,o,none⟩=W.frozen? ⟨b,o,none⟩) :=
 ⟨fun b o h=>hb.cell (p:=⟨b,o,none⟩) h,fun b o h=>hb.frozen (p:=⟨b,o,none⟩) h⟩
