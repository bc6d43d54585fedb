/- T -/
import Derived.Test.YthpngeboknmllaaGreatQ49eb
import Derived.Test.YthpngeboknmllaaGreatQ2112
import Derived.Test.YthpngeboknmllaaGreatQfd8a
set_option linter.unusedVariables false
set_option linter.unusedSimpArgs false
set_option maxHeartbeats 4000000
set_option maxRecDepth 100000
namespace Go.Proofs.YthpngeboknmllaaGreat
open Go.RowKit
def Yp (t:Z9) (p:List Int) (x y:Int):List Z9×Int:=if (ZR t p).2≠0 then ([],(ZR t p).2) else if x<0\/y<x\/(ZR t p).1.kids.length<y then ([],2) else (((ZR t p).1.kids.take y.toNat).drop x.toNat,0)
def zWg (w:World) (r:List Z9×Int) (e:Ending) (w':World):Prop :=
 ∃v,e=.returned (.tuple #[v,.int .i64 r.2])/\Z8 Z7 w' (Lt w'.heap.size) r.1 v/\Below w.heap.size w w'
def Q6 (w:World) (x:Z9) (er:Int) (e:Ending) (w':World):Prop :=
 ∃v,e=.returned (.tuple #[.agg #[.int .i64 x.kind,.string x.text,.int .i64 x.cols,v],.int .i64 er])/\Z8 Z7 w' (Lt w'.heap.size) x.kids v/\Below w.heap.size w w'
theorem zHt (t:Z9) (p:List Int) {m:Nat} {w:World} {S:Nat->Prop} {v:Value} (hv:Z8 Z7 w S t.kids v) (aa:Zt t) (h:ZW t<=m):ZT (ZR t p).1.kids<=m:=by
 have hz:ZT ZJ.kids<=m:=QU _;unfold ZR;split
 ·exact hz
 split
 ·exact hz
 rename_i h1 h2;have hr:=SQ t p;rw[if_pos (by simpa using h2)] at hr;have:=(zJ7 t p _ hr aa ⟨v,hv⟩).2;rw[XG] at this;show ZT (ZM t p).1.kids<=m;omega
theorem zE0 (ts:List Z9) (k:Nat):ZT (ts.drop k)<=ZT ts:=by
 have h:=Ua (ts.take k) (ts.drop k);rw[List.take_append_drop] at h;omega
end Go.Proofs.YthpngeboknmllaaGreat
namespace Go.Proofs.YthpngeboknmllaaGreat
open Go Go.RowKit Go.Shelf
attribute [local go_sem] Oper.semAt_some
def atL (L:List (List Int)) (i:Int):List Int×Int:=if 0<=i then (match L[i.toNat]? with|some q=>(q,0)|none=>([],2)) else ([],2)
end Go.Proofs.YthpngeboknmllaaGreat
namespace Go.Proofs.YthpngeboknmllaaGreat
def zKy (L:List (List Int)) (o:Option Nat) (d:Int):List Int×Int:=match o with|some i=>(if (atL L ((i:Int)+d)).2=0 then ((atL L ((i:Int)+d)).1,0) else ([],8))|none=>([],2)
def RJ (t:Z9) (p:List Int) (d:Int):List Int×Int:=if ZN t then zKy (Zh [] t) (Yy (Zh [] t) p) d else ([],1)
end Go.Proofs.YthpngeboknmllaaGreat
namespace Go.Proofs.YthpngeboknmllaaGreat
open Go.RowKit
abbrev WA (l:List Z9) (i:Nat):Z9:=l.getD i ZJ
structure Za where
 ops:List ZB
 bp:List Int
 bm:List Int
 ap:List Int
 am:List Int
def Zo:Za:=⟨[],[],[],[],[]⟩
def ZQ:ByteArray:=⟨#[]⟩
def Yn (row:List Int) (a:Int) (l:List Z9):ZB:=⟨2,row,a,0,l,0,ZQ,ZQ⟩
def Yc (row:List Int) (a:Int) (l:List Z9):ZB:=⟨1,row,a,0,l,0,ZQ,ZQ⟩
def Wy (t:Z9) (p m:List Int) (ops:List ZB) (pos:List Int):Za×Int:=if (Xn t ops).2=0 then (⟨ops,p,m,pos,[]⟩,0) else (Zo,6)
def SG (t:Z9) (r:List Int×Int×Int):List ZB:=if (Yp t r.1 r.2.1 r.2.2).1.length=0 then [] else [Yn r.1 r.2.1 (Yp t r.1 r.2.1 r.2.2).1]
def Y6 (t:Z9) (p:List Int) (i:Int):Z9×Int :=
 if (ZR t p).2≠0 then (ZJ,(ZR t p).2) else if i<0\/((ZR t p).1.kids.length:Int)<=i then (ZJ,2) else (WA (ZR t p).1.kids i.toNat,0)
structure UV where
 row:List Int
 at_:Int
 own:Int
 item:Z9
def Zz (t:Z9) (p:List Int):Option UV :=
 if p.length<3 then none else some ⟨p.take (p.length-3),p.getD (p.length-3) 0,p.getD (p.length-2) 0,(Y6 t (p.take (p.length-3)) (p.getD (p.length-3) 0)).1⟩
def XV:List Z9->Int->Int->Bool
 |[],_,_=>false
 |k::ks,i,but=>(decide (i≠but)&&decide (0<k.kids.length)) || XV ks (i+1) but
def Zf (x:UV):ZB:=⟨4,x.row,x.at_,(ZY x.item x.own).kids.length,[Zp x.item x.own.toNat []],x.own,ZQ,ZQ⟩
def UC (t:Z9) (p m:List Int) (back:Bool):Za×Int :=
 if (RJ t p (if back then -1 else 1)).2≠0 then (Zo,(RJ t p (if back then -1 else 1)).2) else Wy t p m [] (RJ t p (if back then -1 else 1)).1
def R6 (t:Z9) (p m:List Int) (back:Bool):Za×Int :=
 if (ZI t p m).2≠0 then (Zo,(ZI t p m).2)
 else if (ZI t p m).1.2.1<(ZI t p m).1.2.2 then Wy t p m (SG t (ZI t p m).1) ((ZI t p m).1.1++[(ZI t p m).1.2.1])
 else
  let row:=(ZR t p.dropLast).1.kids
  let i:=if back then p.getLastD 0-1 else p.getLastD 0
  if 0<=i/\i<row.length then
   (if XV (WA row i.toNat).kids 0 (-1)=false then Wy t p m [Yn p.dropLast i [WA row i.toNat]] (p.dropLast++[i]) else UC t p m back)
  else match Zz t p with
   |some x=>if XV x.item.kids 0 x.own=false then Wy t p m [Zf x] (x.row++[if back then x.at_ else x.at_+(Zf x).n]) else UC t p m back
   |none=>UC t p m back
def Xd (t:Z9) (p m:List Int):Za×Int :=
 if (ZI t p m).2≠0 then (Zo,(ZI t p m).2)
 else match Zz t p with
  |none=>(Zo,8)
  |some x=>Wy t p m [Zf x] (Uz (Zf x) p false)
def XM (t:Z9) (p m:List Int):Za×Int :=
 if (ZI t p m).2≠0 then (Zo,(ZI t p m).2)
 else match Zz t p with
  |none=>(Zo,8)
  |
   some x =>
   if (ZI t p m).1.2.1<(ZI t p m).1.2.2\/(x.item.kind≠11/\x.item.kind≠10) then (Zo,7)
   else
    let rest:List Int×Int×Int:=(x.row++[x.at_,x.own],p.getLastD 0,((ZY x.item x.own).kids.length:Int))
    Wy t p m (SG t rest++[Yc x.row (x.at_+1) [Zp x.item x.own.toNat (Yp t rest.1 rest.2.1 rest.2.2).1]]) (x.row++[x.at_+1,x.own,0])
def TB (cols own:Int) (columns:Bool):List Z9->Int->List Z9
 |[],_=>[]
 |k::ks,i=>k::((if columns=true/\i.tmod cols=own.tmod cols then [Z6 []] else [])++((if columns=false/\i=own.tdiv cols*cols+cols-1 then List.replicate cols.toNat (Z6 []) else [])++TB cols own columns ks (i+1)))
def Xe (t:Z9) (p m:List Int) (columns:Bool):Za×Int :=
 if (ZI t p m).2≠0 then (Zo,(ZI t p m).2)
 else match Zz t p with
  |none=>(Zo,8)
  |
   some x =>
   if x.item.kind≠12 then (Zo,7)
   else
    let m2:Z9:=.mk 12 ZQ (if columns then x.item.cols+1 else x.item.cols) (TB x.item.cols x.own columns x.item.kids 0)
    let own2:Int:=(TB x.item.cols x.own columns (x.item.kids.take x.own.toNat) 0).length
    Wy t p m [Yn x.row x.at_ [x.item],Yc x.row x.at_ [m2]] (x.row++[x.at_,own2,p.getLastD 0])
def Sy (w:World) (r:List Z9×Int) (e:Ending) (w':World):Prop :=
 ∃v,e=.returned (.tuple #[v,.int .i64 r.2])/\Z8 Z7 w' (fun k=>w.heap.size<=k/\k<w'.heap.size) r.1 v/\Below w.heap.size w w'
theorem zOu (t:Z9) (p:List Int) (x y:Int) (A Ap:Option Addr) (cap cp:Nat) (w:World) (hv:Z8 Z7 w (Lt w.heap.size) t.kids (.slice A t.kids.length cap)) (ai:Zt t) (ak:ZW t<=900000) (hp:Z0 w (Lt w.heap.size) p (.slice Ap p.length cp)) (hx:Z4 x) (hy:Z4 y) :
  Calls Tryz.prog 86 #[.agg #[.int .i64 t.kind,.string t.text,.int .i64 t.cols,.slice A t.kids.length cap],.agg #[.slice Ap p.length cp,.int .i64 x,.int .i64 y]] w (Sy w (Yp t p x y)):=by
 have C1:Hid (∀W,Below w.heap.size w W->Calls Tryz.prog 83 #[.agg #[.int .i64 t.kind,.string t.text,.int .i64 t.cols,.slice A t.kids.length cap],.slice Ap p.length cp] W (Q6 W (ZR t p).1 (ZR t p).2)):=fun W hW=>(zKi (.mk t.kind t.text t.cols t.kids) p A Ap cap cp W (by exact hv.below hW hW.size) ai (by cases t;exact ak) (hp.below hW hW.size)).mono fun _ _ h=>by cases t;obtain⟨v,h1,h2,h3⟩:=h;exact⟨v,h1,h2.keep (WI _ _) (fun k hk=>hk.2),h3⟩
 have HR:Hid (((ZR t p).2≠0->Yp t p x y=([],(ZR t p).2))/\((ZR t p).2=0->(x<0\/y<x\/(ZR t p).1.kids.length<y)->Yp t p x y=([],2))/\((ZR t p).2=0->¬(x<0\/y<x\/(ZR t p).1.kids.length<y)->Yp t p x y=(((ZR t p).1.kids.take y.toNat).drop x.toNat,0))) :=
  ⟨fun h=>if_pos h,fun h1 h2=>(if_neg (by simp[h1])).trans (if_pos h2),fun h1 h2=>(if_neg (by simp[h1])).trans (if_neg h2)⟩
 have HC:Hid (ZT (ZR t p).1.kids<=900000):=zHt t p hv ai ak;generalize Yp t p x y=res at *;generalize ZR t p=r at *;obtain⟨tk,tx,tc,ts⟩:=t;obtain⟨⟨rk,rx,rc,rs⟩,er⟩:=r;simp only[Z9.kind,Z9.text,Z9.cols,Z9.kids] at *;clear hv ai ak hp;generalize av:(w.alloc (Obj.cells #[.int .i64 tk,.string tx,.int .i64 tc,.slice A ts.length cap] 24)).alloc (.cells #[.slice Ap p.length cp,.int .i64 x,.int .i64 y] 67)=W0;have KB:Hid (∀W,Below W0.heap.size W0 W->(W.cell? ⟨w.heap.size,0,none⟩=some (.int .i64 tk)/\W.cell? ⟨w.heap.size,1,none⟩=some (.string tx)/\W.cell? ⟨w.heap.size,2,none⟩=some (.int .i64 tc)/\W.cell? ⟨w.heap.size,3,none⟩=some (.slice A ts.length cap)) /\
   (W.cell? ⟨w.heap.size+1,0,none⟩=some (.slice Ap p.length cp)/\W.cell? ⟨w.heap.size+1,1,none⟩=some (.int .i64 x)/\W.cell? ⟨w.heap.size+1,2,none⟩=some (.int .i64 y))/\Below w.heap.size w W):=by
  intro W hW;have hz:W0.heap.size=w.heap.size+1+1:=by rw[<-av];simp
  have hc:=(bcell hW).1;have aC:Below w.heap.size w W0:=by rw[<-av];exact WU (XP _ _) _
  refine⟨⟨(hc _ _ (by omega)).trans ?_,(hc _ _ (by omega)).trans ?_,(hc _ _ (by omega)).trans ?_,(hc _ _ (by omega)).trans ?_⟩,⟨(hc _ _ (by omega)).trans ?_,(hc _ _ (by omega)).trans ?_,(hc _ _ (by omega)).trans ?_⟩,aC.trans (hW.mono aC.size)⟩
  all_goals (rw[<-av];first|exact XZ _ _ _ _ _ _ rfl|exact Zc _ _ _ _ _ (by simp))
 obtain⟨⟨m0,m1,m2,m3⟩,⟨c0,c1,c2⟩,ae⟩:=KB.out W0 (QQ _ _);have az:=hid ae;clear ae;go_enter Tryz.func86,Tryz.ntmps86
 go_wp2_with fail
 refine(C1.out _ az.out).mono ?_;intro e w1 h1;obtain⟨v1,rfl,ah,aF⟩:∃v,e=.returned (.tuple #[.agg #[.int .i64 rk,.string rx,.int .i64 rc,v],.int .i64 er])/\Z8 Z7 w1 (Lt w1.heap.size) rs v/\Below W0.heap.size W0 w1:=h1;obtain⟨A1,n1,rfl⟩:=ah.form;have aG:=hid ah;have aA:=hid aF;clear m0 m1 m2 m3 c0 c1 c2 ah aF;rcases Decidable.em (er=0) with he|he
 case inr =>
  have HE:=hid he;have i0:(er != 0)=true:=by simpa using he
  go_wp2_with fail
  refine bodyPost_ret (v:=.tuple #[.slice none 0 0,.int .i64 er]) (by simp[results,Tryz.results86,go_sem]) rfl ?_;rw[HR.out.1 HE.out];exact⟨_,rfl,Z8.nil_ 0 (QU _) none,WU (KB.out w1 aA.out).2.2 _⟩
 subst he
 go_upto_region 4 with fail
 obtain⟨X,hX⟩:∃X,w1.alloc (Obj.cells #[.int .i64 rk,.string rx,.int .i64 rc,.slice A1 rs.length n1] 24)=X:=⟨_,rfl⟩;rw[hX];have ax:Hid (Below w1.heap.size w1 X):=by show Below _ _ _;rw[<-hX];exact XP _ _
 obtain⟨_,⟨_,b1,b2⟩,aB⟩:=KB.out X (aA.out.trans (ax.out.mono aA.out.size));have n3:X.cell? ⟨w1.heap.size,3,none⟩=some (.slice A1 rs.length n1):=by rw[<-hX];exact Zc _ _ _ _ _ rfl
 have aa:=hid aB;have aL:=hid (aG.out.below ax.out ax.out.size);clear aB hX;have aI:rs.length<=n1:=by obtain⟨_,_,_,hq,h1,_⟩:=aG.out;cases hq;exact h1
 rcases Int.lt_or_le x 0 with h0|h0
 ·have i0:decide (x<0)=true:=by simpa using h0
  have HH:=hid h0;clear h0
  go_wp2_with fail
  refine bodyPost_ret (v:=.tuple #[.slice none 0 0,.int .i64 2]) (by simp[results,Tryz.results86,go_sem]) rfl ?_;rw[HR.out.2.1 trivial (Or.inl HH.out)];exact⟨_,rfl,Z8.nil_ 0 (QU _) none,aa.out⟩
 have i0:decide (x<0)=false:=by simpa using h0
 rcases Int.lt_or_le y x with h1|h1
 ·have i1:decide (y<x)=true:=by simpa using h1
  have HH:=hid h1;clear h1 h0
  go_wp2_with fail
  refine bodyPost_ret (v:=.tuple #[.slice none 0 0,.int .i64 2]) (by simp[results,Tryz.results86,go_sem]) rfl ?_;rw[HR.out.2.1 trivial (Or.inr (Or.inl HH.out))];exact⟨_,rfl,Z8.nil_ 0 (QU _) none,aa.out⟩
 have i1:decide (y<x)=false:=by simpa using h1
 rcases Int.lt_or_le rs.length y with h2|h2
 ·have i2:decide ((rs.length:Int)<y)=true:=by simpa using h2
  have HH:=hid h2;clear h1 h0 h2
  go_wp2_with fail
  refine bodyPost_ret (v:=.tuple #[.slice none 0 0,.int .i64 2]) (by simp[results,Tryz.results86,go_sem]) rfl ?_;rw[HR.out.2.1 trivial (Or.inr (Or.inr HH.out))];exact⟨_,rfl,Z8.nil_ 0 (QU _) none,aa.out⟩
 have i2:decide ((rs.length:Int)<y)=false:=by simpa using h2
 obtain⟨x',ag⟩:∃x':Nat,x=x':=⟨x.toNat,by omega⟩;obtain⟨y',af⟩:∃y':Nat,y=y':=⟨y.toNat,by omega⟩;obtain⟨A2,hsl,hcut⟩:=RZ Z7 Tryz.underlying22 VZ A1 rs.length n1 x y x' y' ag af (by omega) (by omega) aI;have aM:=hid (hcut _ _ _ aL.out);have ay:Hid (res=((rs.take y').drop x',0)):=by
  have h:=HR.out.2.2 trivial (by show ¬(x<0\/y<x\/(rs.length:Int)<y);omega);rw[ag,af,Int.toNat_natCast,Int.toNat_natCast] at h;exact h
 have aJ:Hid (((rs.take y').drop x').length=y'-x'):=by show _=_;simp;omega
 have au:Hid (ZT ((rs.take y').drop x')<=900000):=by
  have h1:=zE0 (rs.take y') x';have h2:=Xy rs y';have h3:=HC.out;show _<=_;omega
 clear hcut h0 h1 h2 HR ag af
 go_wp2_with fail
 refine(zGe _ _ _ aM.out (QP au.out (by omega))).mono ?_;generalize (rs.take y').drop x'=L at *;rintro e w2 ⟨v2,rfl,aj,aD⟩;obtain⟨A3,aH,rfl⟩:=aj.form;have aK:=hid aj;have aN:=hid aD;clear aj aD
 go_wp2_with fail
 refine bodyPost_ret (v:=.tuple #[.slice A3 L.length aH,.int .i64 0]) (by simp[results,Tryz.results86,go_sem]) rfl ?_;rw[ay.out];exact⟨_,rfl,aK.out.rows.keep (fun _ _=>rfl) (fun k hk=>⟨QP aa.out.size hk.1,hk.2⟩),aa.out.trans (aN.out.mono aa.out.size)⟩
theorem zQa (t:Z9) (p:List Int) (i:Int) (A Ap:Option Addr) (cap cp:Nat) (w:World) (hv:Z8 Z7 w (Lt w.heap.size) t.kids (.slice A t.kids.length cap)) (aG:Zt t) (bu:ZW t<=900000) (hp:Z0 w (Lt w.heap.size) p (.slice Ap p.length cp)) :
  Calls Tryz.prog 84 #[.agg #[.int .i64 t.kind,.string t.text,.int .i64 t.cols,.slice A t.kids.length cap],.slice Ap p.length cp,.int .i64 i] w (XC w (Y6 t p i).1 (Y6 t p i).2):=by
 have C1:Hid (∀W,Below w.heap.size w W->Calls Tryz.prog 53 #[.agg #[.int .i64 t.kind,.string t.text,.int .i64 t.cols,.slice A t.kids.length cap]] W fun e w'=>e=.returned (.bool (ZN t))/\Below W.heap.size W w'):=fun W hW=>UN t A cap W (hv.below hW hW.size) aG.2.2
 have C2:Hid (∀W,Below w.heap.size w W->W.cell? ⟨w.heap.size,0,none⟩=some (.int .i64 t.kind)/\W.cell? ⟨w.heap.size,1,none⟩=some (.string t.text)/\W.cell? ⟨w.heap.size,2,none⟩=some (.int .i64 t.cols)/\W.cell? ⟨w.heap.size,3,none⟩=some (.slice A t.kids.length cap)->w.heap.size<W.heap.size ->
   Calls Tryz.prog 113 #[.pointer (some ⟨w.heap.size,0,none⟩),.slice Ap p.length cp] W (UW W (ZG t p))):=fun W hW hc hz=>by
  obtain⟨_,_,rs,hq,h1,h2,h3,h4⟩:=hv.below hW hW.size;cases hq;exact zG0 t p w.heap.size 0 A cap rs _ W ⟨by simpa using hc,hz,aG.2.2,h1,h2,h3,h4⟩ (hp.below hW hW.size)
 have C3:Hid (∀t',ZG t p=some t'->Zt t'/\ZW t'<=1000000):=fun t' h=>by
  obtain⟨h1,h2⟩:=zJ7 t p t' h aG ⟨_,hv⟩;exact⟨h1,by omega⟩
 have HR:Hid ((ZN t=false->Y6 t p i=(ZJ,1))/\(ZN t=true->ZG t p=none->Y6 t p i=(ZJ,8))/\(∀x,ZN t=true->ZG t p=some x->(i<0\/(x.kids.length:Int)<=i)->Y6 t p i=(ZJ,2))/\(∀x,ZN t=true->ZG t p=some x->¬(i<0\/(x.kids.length:Int)<=i)->Y6 t p i=(WA x.kids i.toNat,0))):=by
  refine⟨fun h=>?_,fun h h1=>?_,fun x h h1 h2=>?_,fun x h h1 h2=>?_⟩
  ·unfold Y6 ZR;rw[if_pos h];simp
  ·rw[SQ] at h1;unfold Y6 ZR;cases hf:(ZM t p).2
   ·simp[h]
   rw[hf] at h1;simp at h1
  ·rw[SQ] at h1;cases hf:(ZM t p).2
   ·rw[hf] at h1;simp at h1
   rw[hf] at h1;simp at h1;have e1:ZR t p=(x,0):=by unfold ZR;rw[if_neg (by simp[h]),if_neg (by rw[hf];simp),h1]
   unfold Y6;rw[e1,if_neg (by simp),if_pos h2]
  rw[SQ] at h1;cases hf:(ZM t p).2
  ·rw[hf] at h1;simp at h1
  rw[hf] at h1;simp at h1;have e1:ZR t p=(x,0):=by unfold ZR;rw[if_neg (by simp[h]),if_neg (by rw[hf];simp),h1]
  unfold Y6;rw[e1,if_neg (by simp),if_neg h2]
 generalize Y6 t p i=bA at *;generalize ZG t p=f at *;generalize bz:ZN t=bv at *;clear hv aG bu hp bz;obtain⟨W0,aI⟩:∃W0,(w.alloc (Obj.cells #[.int .i64 t.kind,.string t.text,.int .i64 t.cols,.slice A t.kids.length cap] 24)).alloc (Obj.cells #[.int .i64 0,.string ⟨#[]⟩,.int .i64 0,.slice none 0 0] 24)=W0:=⟨_,rfl⟩;have aa:Hid (W0.heap.size=w.heap.size+1+1):=by show _=_;rw[<-aI];simp
 have KB:Hid (∀W,Below W0.heap.size W0 W->FB W w.heap.size (.int .i64 t.kind) (.string t.text) (.int .i64 t.cols) (.slice A t.kids.length cap)/\FB W (w.heap.size+1) (.int .i64 0) (.string ⟨#[]⟩) (.int .i64 0) (.slice none 0 0)/\Below w.heap.size w W):=by
  intro W hW;have hz:W0.heap.size=w.heap.size+1+1:=aa.out;refine⟨FB.below (B:=W0.heap.size) ?_ hW (by omega),FB.below (B:=W0.heap.size) ?_ hW (by omega),Below.trans ?_ (hW.mono (by omega))⟩
  ·rw[<-aI];exact(FB.new w _ _ _ _ _ rfl).below (ZX _ _) (by simp)
  ·rw[<-aI];exact FB.new _ _ _ _ _ _ (by simp)
  rw[<-aI];exact Zq (ZX _ _) _
 obtain⟨⟨⟨m0,m1,m2,m3⟩,_⟩,⟨⟨c0,c1,c2,c3⟩,⟨f0,f1,f2,f3⟩⟩,az⟩:=KB.out W0 (QQ _ _);have aO:=hid az;clear az;go_enter Tryz.func84,Tryz.ntmps84
 go_wp2_with fail
 refine(C1.out _ aO.out).mono ?_;rintro e w1 ⟨rfl,aH⟩;clear m0 m1 m2 m3 c0 c1 c2 c3 f0 f1 f2 f3;have aZ:=hid aH;obtain⟨⟨⟨m0,m1,m2,m3⟩,_⟩,⟨⟨c0,c1,c2,c3⟩,⟨f0,f1,f2,f3⟩⟩,ay⟩:=KB.out w1 aH;have aB:=hid ay;have bB:Hid (w.heap.size<w1.heap.size):=by show _<_;have:=aH.size;have:=aa.out;omega
 clear aH ay;cases bv
 ·have HC:=hid (QS c0 (QS c1 (QS c2 c3)))
  go_wp2_with fail
  generalize hW:(((w1.setCell _ (.int .i64 0)).setCell _ (.string ⟨#[]⟩)).setCell _ (.int .i64 0)).setCell _ (.slice none 0 0)=W;obtain⟨⟨r0,r1,r2,r3⟩,rz,rb,ro,_⟩:=four HC.out.1 HC.out.2.1 HC.out.2.2.1 HC.out.2.2.2 _ _ _ _ hW.symm;have ae:=hid (rb w.heap.size w (by omega) aB.out);clear hW ro rb;refine bodyPost_ret (v:=.tuple #[.agg #[.int .i64 0,.string ⟨#[]⟩,.int .i64 0,.slice none 0 0],.int .i64 1]) (by simp[results,Tryz.results84,go_sem,r0,r1,r2,r3]) rfl ?_;rw[HR.out.1 (by trivial)];exact⟨_,rfl,Z8.nil_ 0 (QU _) none,ae.out⟩
 go_wp2_with fail
 refine(C2.out _ aB.out ⟨m0,m1,m2,m3⟩ bB.out).mono ?_;rintro e w2 ⟨⟨n2,aC⟩,au⟩;have aA:Below w1.heap.size w1 w2:=by rw[aC];exact XE (QQ _ _) n2
 have aJ:=hid (aZ.out.trans (aA.mono aZ.out.size));clear m0 m1 m2 m3 c0 c1 c2 c3 f0 f1 f2 f3;obtain⟨⟨⟨m0,m1,m2,m3⟩,_⟩,⟨⟨c0,c1,c2,c3⟩,⟨f0,f1,f2,f3⟩⟩,ax⟩:=KB.out w2 aJ.out;have af:=hid ax;clear ax;rcases au with ⟨aP,q,rfl⟩|⟨t',g,o,A',cap',rs,aD,rfl,⟨d0,d1,d2,d3⟩,bn,bi,aT,aL,aS,aR⟩
 ·have HE:=hid (HR.out.2.1 (by trivial) aP);clear aA aC aP;have HC:=hid (QS c0 (QS c1 (QS c2 c3)))
  go_wp2_with fail
  generalize hW:(((w2.setCell _ (.int .i64 0)).setCell _ (.string ⟨#[]⟩)).setCell _ (.int .i64 0)).setCell _ (.slice none 0 0)=W;obtain⟨⟨r0,r1,r2,r3⟩,rz,rb,ro,_⟩:=four HC.out.1 HC.out.2.1 HC.out.2.2.1 HC.out.2.2.2 _ _ _ _ hW.symm;have ae:=hid (rb w.heap.size w (by omega) af.out);clear hW ro rb;refine bodyPost_ret (v:=.tuple #[.agg #[.int .i64 0,.string ⟨#[]⟩,.int .i64 0,.slice none 0 0],.int .i64 8]) (by simp[results,Tryz.results84,go_sem,r0,r1,r2,r3]) rfl ?_;rw[HE.out];exact⟨_,rfl,Z8.nil_ 0 (QU _) none,ae.out⟩
 have aK:Z8 Z7 w2 (Lt w2.heap.size) t'.kids (.slice A' t'.kids.length cap'):=Z8.below (B:=w1.heap.size) ⟨A',cap',rs,rfl,aT,aL,aS,aR⟩ aA aA.size
 replace d3:w2.cell? ⟨g,o+3,none⟩=some (.slice A' t'.kids.length cap'):=by rw[aC];exact d3
 have aM:=hid (HR.out.2.2.1 t' (by trivial) aD);have aY:=hid (HR.out.2.2.2 t' (by trivial) aD);have HT:=hid (C3.out t' aD);have ak:=aL;unfold maxLen at ak;have hln:(t'.kids.length:Int)<=9223372036854775807:=by omega
 clear d0 d1 d2 aA aC bn bi aT aL aS aR ak aD;rcases Int.lt_or_le i 0 with h1|h1
 ·have i1:decide (i<0)=true:=by simpa using h1
  have HE:=hid (aM.out (.inl h1));clear aK;have HC:=hid (QS c0 (QS c1 (QS c2 c3)))
  go_wp2_with fail
  generalize hW:(((w2.setCell _ (.int .i64 0)).setCell _ (.string ⟨#[]⟩)).setCell _ (.int .i64 0)).setCell _ (.slice none 0 0)=W;obtain⟨⟨r0,r1,r2,r3⟩,rz,rb,ro,_⟩:=four HC.out.1 HC.out.2.1 HC.out.2.2.1 HC.out.2.2.2 _ _ _ _ hW.symm;have ae:=hid (rb w.heap.size w (by omega) af.out);clear hW ro rb;refine bodyPost_ret (v:=.tuple #[.agg #[.int .i64 0,.string ⟨#[]⟩,.int .i64 0,.slice none 0 0],.int .i64 2]) (by simp[results,Tryz.results84,go_sem,r0,r1,r2,r3]) rfl ?_;rw[HE.out];exact⟨_,rfl,Z8.nil_ 0 (QU _) none,ae.out⟩
 have i1:decide (i<0)=false:=by simpa using h1
 rcases Int.lt_or_le i t'.kids.length with h2|h2;rotate_left
 ·have i2:decide ((t'.kids.length:Int)<=i)=true:=by simpa using h2
  have HE:=hid (aM.out (.inr h2));clear aK;have HC:=hid (QS c0 (QS c1 (QS c2 c3)))
  go_wp2_with fail
  generalize hW:(((w2.setCell _ (.int .i64 0)).setCell _ (.string ⟨#[]⟩)).setCell _ (.int .i64 0)).setCell _ (.slice none 0 0)=W;obtain⟨⟨r0,r1,r2,r3⟩,rz,rb,ro,_⟩:=four HC.out.1 HC.out.2.1 HC.out.2.2.1 HC.out.2.2.2 _ _ _ _ hW.symm;have ae:=hid (rb w.heap.size w (by omega) af.out);clear hW ro rb;refine bodyPost_ret (v:=.tuple #[.agg #[.int .i64 0,.string ⟨#[]⟩,.int .i64 0,.slice none 0 0],.int .i64 2]) (by simp[results,Tryz.results84,go_sem,r0,r1,r2,r3]) rfl ?_;rw[HE.out];exact⟨_,rfl,Z8.nil_ 0 (QU _) none,ae.out⟩
 have i2:decide ((t'.kids.length:Int)<=i)=false:=by simpa using h2
 obtain⟨k,rfl⟩:∃k:Nat,i=k:=⟨i.toNat,by omega⟩;have hk:k<t'.kids.length:=by omega
 have HE:Hid (bA=(t'.kids[k],0)):=by
  show _=_;rw[aY.out (by omega),Int.toNat_natCast];show ((t'.kids.getD k ZJ,(0:Int)):Z9×Int)=_;rw[zM2 hk]
 obtain⟨_,_,rs2,hq,_,_,ah,aj⟩:=aK;cases hq;obtain⟨gi,oi,Ai,ci,bg,rfl,hgi,q0,q1,q2,q3,e1,e2,e3,e4,e5,ag,ai⟩:=Y5 ah aj hk;have aQ:Z8 Z7 w2 (Lt w2.heap.size) t'.kids[k].kids (.slice Ai t'.kids[k].kids.length ci):=⟨_,_,bg,rfl,e4,e5,ag,ai⟩;have aU:ZW t'.kids[k]<=1000000:=by
  have h8:=Tz (t:=t') hk;have h9:=HT.out.2;omega
 have CD:=hid (Re t'.kids[k] Ai ci w2 aQ ⟨e1,e2,e3⟩ aU);generalize t'.kids[k]=x at *;obtain⟨xk,xt,xc,xs⟩:=x;simp only[Z9.kind,Z9.text,Z9.cols,Z9.kids] at CD q0 q1 q2 q3;clear ah aj ag ai e1 e2 e3 e4 e5 aQ aU aM aY h1 h2;have i3:(0:Int)<=(k:Int):=by omega
 have i4:(k:Int)<(t'.kids.length:Int):=by omega
 go_wp2_with fail
 refine CD.out.mono ?_;rintro e w3 ⟨v3,rfl,aF,aV⟩;simp only[Z9.kind,Z9.text,Z9.cols,Z9.kids] at aF ⊢;obtain⟨A3,aW,rfl⟩:=aF.form;have bD:=hid aF;have bG:=hid (aJ.out.trans (aV.mono aJ.out.size));clear m0 m1 m2 m3 c0 c1 c2 c3 f0 f1 f2 f3;obtain⟨⟨⟨m0,m1,m2,m3⟩,_⟩,⟨⟨c0,c1,c2,c3⟩,⟨f0,f1,f2,f3⟩⟩,av⟩:=KB.out w3 bG.out;have aN:=hid av;have aX:Hid (W0.heap.size<=w2.heap.size):=aJ.out.size;have HC:=hid (QS c0 (QS c1 (QS c2 c3)));clear aV av aF q0 q1 q2 q3 d3
 go_wp2_with fail
 generalize hW:(((w3.setCell _ (.int .i64 xk)).setCell _ (.string xt)).setCell _ (.int .i64 xc)).setCell _ (.slice A3 xs.length aW)=W;obtain⟨⟨r0,r1,r2,r3⟩,rz,rb,ro,_⟩:=four HC.out.1 HC.out.2.1 HC.out.2.2.1 HC.out.2.2.2 _ _ _ _ hW.symm;have ae:=hid (rb w.heap.size w (by omega) aN.out);have bC:Hid (∀q:Addr,q.block≠w.heap.size+1->W.cell? q=w3.cell? q):=ro;clear hW ro rb;refine bodyPost_ret (v:=.tuple #[.agg #[.int .i64 xk,.string xt,.int .i64 xc,.slice A3 xs.length aW],.int .i64 0]) (by simp[results,Tryz.results84,go_sem,r0,r1,r2,r3]) rfl ?_;rw[HE.out];exact⟨_,rfl,bD.out.keep (fun q hq=>bC.out q (by have:=hq.1;have:=aX.out;have:=aa.out;omega)) (fun q hq=>⟨by have:=hq.1;have:=aX.out;have:=aa.out;omega,by rw[rz];exact hq.2⟩),ae.out⟩
theorem zGc (t:Z9) (i k:Int) (p:List Int) (hi:0<=i/\i.toNat<t.kids.length) (hk:0<=k/\k.toNat<(ZY t i).kids.length):ZM t (i::k::p)=ZM (ZY (ZY t i) k) p:=by
 rw[ZM,dif_pos hi];have e:ZY t i=t.kids[i.toNat]:=UL hi.2;rw[e] at hk ⊢;rw[dif_pos hk,UL hk.2]
theorem zIe:(p:List Int)->(t:Z9)->(q:List Int)->(ZM t p).2=true->ZM t (p++q)=ZM (ZM t p).1 q
 |[],t,q,_=>rfl
 |[_],t,q,h=>by simp[ZM] at h
 |
  i::k::p,t,q,h=>by
  obtain⟨hi,hk,he⟩:=Vr t i k p h;rw[he] at h ⊢;show ZM t (i::k::(p++q))=_;rw[zGc t i k (p++q) hi hk];exact zIe p _ q h
theorem zNy:(p:List Int)->(t:Z9)->(o:Int)->ZA t (p++[o])=true->(ZM t p).2=true
 |[],t,o,_=>rfl
 |[i],t,o,h=>by have:=Rw _ _ h;simp at this
 |
  i::k::p,t,o,h=>by
  have h':ZA t (i::k::(p++[o]))=true:=h;rw[Rx] at h';simp only[Bool.and_eq_true,decide_eq_true_eq] at h';rw[zGc t i k p h'.1 h'.2.1];exact zNy p _ o h'.2.2
theorem zIc:(p:List Int)->(t:Z9)->(q:List Int)->p.length % 2=0->(ZM t (p++q)).2=true->(ZM t p).2=true
 |[],t,q,_,_=>rfl
 |[_],t,q,h,_=>by simp at h
 |
  i::k::p,t,q,h,hf=>by
  have aa:(ZM t (i::k::(p++q))).2=true:=hf;obtain⟨hi,hk,he⟩:=Vr t i k (p++q) aa;rw[he] at aa;rw[zGc t i k p hi hk];exact zIc p _ q (by simp at h;omega) aa
theorem TE {t:Z9} {p:List Int} {o:Int} (h:ZA t (p++[o])=true):(ZM t p).2=true/\0<=o/\o<=(ZM t p).1.kids.length:=by
 have h1:=zNy p t o h;rw[zJd p t [o] h1,zLe] at h;exact⟨h1,by simpa using h⟩
theorem zT2 {p:List Int} (h:2<=p.length):∃q i s,p=q++[i,s]:=by
 obtain⟨p1,s,rfl⟩:∃p1 s,p=p1++[s]:=⟨p.dropLast,p.getLast (by intro e;subst e;simp at h),(List.dropLast_concat_getLast _).symm⟩;simp at h;obtain⟨q,i,rfl⟩:∃q i,p1=q++[i]:=⟨p1.dropLast,p1.getLast (by intro e;subst e;simp at h),(List.dropLast_concat_getLast _).symm⟩;exact⟨q,i,s,by simp⟩
theorem Tc {t:Z9} {q:List Int} {i s o:Int} (h:ZA t (q++[i,s]++[o])=true) :
  (ZM t q).2=true/\(0<=i/\i.toNat<(ZM t q).1.kids.length)/\(0<=s/\s.toNat<(ZY (ZM t q).1 i).kids.length)/\(ZM t (q++[i,s])).1=ZY (ZY (ZM t q).1 i) s/\0<=o/\o<=(ZY (ZY (ZM t q).1 i) s).kids.length:=by
 obtain⟨h1,h2,h3⟩:=TE h;have he:q.length % 2=0:=by have:=zId _ _ h1;simp at this;omega
 have h4:=zIc q t [i,s] he h1;have h5:=zIe q t [i,s] h4;rw[h5] at h1;obtain⟨hi,hk,h6⟩:=Vr _ i s [] h1;have h7:(ZM t (q++[i,s])).1=ZY (ZY (ZM t q).1 i) s:=by rw[h5,h6];rfl
 rw[h7] at h3;exact⟨h4,hi,hk,h7,h2,h3⟩
theorem TF {t:Z9} {p:List Int} (hv:ZN t=true) (h:(ZM t p).2=true):ZR t p=((ZM t p).1,0):=by
 unfold ZR;rw[if_neg (by simp[hv]),if_neg (by simp[h])]
theorem SN (x:Int) (a:List Int):x<=Zj (x::a)/\Zj (x::a)<=x+1/\(a=[]->Zj (x::a)=x):=by
 unfold Zj;cases a<;>simp<;>omega
theorem zQk {t:Z9} {x:Int} {a:List Int} (h:ZA t (x::a)=true):0<=x/\x<=Zj (x::a)/\Zj (x::a)<=t.kids.length:=by
 obtain⟨b1,b2,b3⟩:=SN x a
 match a,h with
 |[],h=>rw[zLe] at h;have h:=of_decide_eq_true h;rw[b3 rfl];exact⟨h.1,Int.le_refl _,h.2⟩
 |
  k::q,h =>
  rw[Rx] at h;simp only[Bool.and_eq_true,decide_eq_true_eq] at h;refine⟨h.1.1,b1,?_⟩;have:=h.1.2;omega
theorem U8:(a:List Int)->(t:Z9)->(b:List Int)->ZA t a=true->ZA t b=true ->
  (ZM t (YC a b).1).2=true/\0<=(YC a b).2.1/\(YC a b).2.1<=(YC a b).2.2/\(YC a b).2.2<=(ZM t (YC a b).1).1.kids.length
 |[],t,b,ha,hb=>by simp[ZA] at ha
 |[x],t,b,ha,hb=>bt_base [x] t b ha hb (by unfold ZE;rfl)
 |[x,y],t,b,ha,hb=>by simp[ZA] at ha
 |i::s::x::a,t,[],ha,hb=>by simp[ZA] at hb
 |i::s::x::a,t,[y],ha,hb=>bt_base _ t [y] ha hb (by unfold ZE;rfl)
 |i::s::x::a,t,[y,z],ha,hb=>by simp[ZA] at hb
 |
  i::s::x::a,t,j::k::y::b,ha,hb=>by
  by_cases he:i=j/\s=k
  ·obtain⟨rfl,rfl⟩:=he;have e1:YC (i::s::x::a) (i::s::y::b)=(i::s::(YC (x::a) (y::b)).1,(YC (x::a) (y::b)).2):=by
    unfold YC;rw[ZE,if_pos ⟨rfl,rfl⟩];rfl
   rw[Rx] at ha hb;simp only[Bool.and_eq_true,decide_eq_true_eq] at ha hb;rw[e1,zGc t i s _ ha.1 ha.2.1];exact U8 (x::a) _ (y::b) ha.2.2 hb.2.2
  exact bt_base _ t _ ha hb (by rw[ZE,if_neg he])
where
 bt_base (a:List Int) (t:Z9) (b:List Int) (ha:ZA t a=true) (hb:ZA t b=true) (h:ZE a b=0) :
   (ZM t (YC a b).1).2=true/\0<=(YC a b).2.1/\(YC a b).2.1<=(YC a b).2.2/\(YC a b).2.2<=(ZM t (YC a b).1).1.kids.length:=by
  unfold YC;rw[h]
  match a,b,ha,hb with
  |[],_,ha,_=>simp[ZA] at ha
  |_::_,[],_,hb=>simp[ZA] at hb
  |
   x::a,y::b,ha,hb =>
   have h1:=zQk ha;have h2:=zQk hb;simp only[List.take_zero,List.drop_zero,List.getD_cons_zero,ZM];refine⟨trivial,by omega,by omega,by omega⟩
theorem VM {t:Z9} {p m:List Int} (h:(ZI t p m).2=0):ZN t=true/\ZA t p=true/\(m.length=0\/ZA t m=true) /\
  (ZM t (ZI t p m).1.1).2=true/\0<=(ZI t p m).1.2.1/\(ZI t p m).1.2.1<=(ZI t p m).1.2.2/\(ZI t p m).1.2.2<=(ZM t (ZI t p m).1.1).1.kids.length:=by
 unfold ZI at h ⊢;by_cases hm:m.length=0
 ·rw[if_pos hm] at h ⊢;unfold Xc at h ⊢;split at h
  ·simp at h
  rename_i h1;rw[if_neg h1];split at h
  ·simp at h
  rename_i h2;rw[if_neg h2];have h3:ZA t p=true:=by simpa using h2
  exact⟨by simpa using h1,h3,.inl hm,U8 p t p h3 h3⟩
 rw[if_neg hm] at h ⊢;unfold Xc at h ⊢;split at h
 ·simp at h
 rename_i h1;rw[if_neg h1];split at h
 ·simp at h
 rename_i h2;rw[if_neg h2];have h3:ZA t p=true/\ZA t m=true:=by simpa using h2
 exact⟨by simpa using h1,h3.1,.inr h3.2,U8 p t m h3.1 h3.2⟩
theorem zN4 {t:Z9} {p m:List Int} (h:(ZI t p m).2=0):(Yp t (ZI t p m).1.1 (ZI t p m).1.2.1 (ZI t p m).1.2.2).2=0/\((Yp t (ZI t p m).1.1 (ZI t p m).1.2.1 (ZI t p m).1.2.2).1.length:Int)=(ZI t p m).1.2.2-(ZI t p m).1.2.1:=by
 obtain⟨hv,_,_,h1,h2,h3,h4⟩:=VM h;unfold Yp;rw[TF hv h1,if_neg (by simp),if_neg (by simp only;omega)];simp;omega
def UK (t:Z9) (p m:List Int) (back:Bool):Za×Int :=
 let row:=(ZR t p.dropLast).1.kids
 let i:=if back then p.getLastD 0-1 else p.getLastD 0
 if 0<=i/\i<row.length then
  (if XV (WA row i.toNat).kids 0 (-1)=false then Wy t p m [Yn p.dropLast i [WA row i.toNat]] (p.dropLast++[i]) else UC t p m back)
 else match Zz t p with
  |some x=>if XV x.item.kids 0 x.own=false then Wy t p m [Zf x] (x.row++[if back then x.at_ else x.at_+(Zf x).n]) else UC t p m back
  |none=>UC t p m back
theorem zJs {t:Z9} {p m:List Int} {back:Bool} (h1:(ZI t p m).2=0) (h2:¬(ZI t p m).1.2.1<(ZI t p m).1.2.2):R6 t p m back=UK t p m back:=by
 unfold R6;rw[if_neg (by simp[h1]),if_neg h2];rfl
theorem zN8:(q:List Int)->(o:Int)->q.length % 2=0->ZE (q++[o]) (q++[o])=q.length
 |[],o,_=>rfl
 |[_],o,h=>by simp at h
 |
  i::s::q,o,h=>by
  have ih:=zN8 q o (by simp at h;omega);cases q with
  |nil=>simp[ZE]
  |
   cons x q =>
   show ZE (i::s::x::(q++[o])) (i::s::x::(q++[o]))=_;rw[ZE,if_pos ⟨rfl,rfl⟩];have aa:ZE (x::(q++[o])) (x::(q++[o]))=(x::q).length:=ih;rw[aa];rfl
theorem zWz {t:Z9} {q:List Int} {o:Int} (hv:ZN t=true) (hp:ZA t (q++[o])=true):ZI t (q++[o]) []=((q,o,o),0):=by
 have he:q.length % 2=0:=by have:=Rw _ _ hp;simp at this;omega
 unfold ZI YC;rw[if_pos (by simp),hv,hp,zN8 q o he];have g1:(q++[o]).getD q.length 0=o:=by rw[List.getD_eq_getElem?_getD,List.getElem?_append_right (Nat.le_refl _)];simp
 rw[g1,List.drop_left,List.take_left']
 ·simp[Xc,Zj]
 rfl
theorem Q8 {t:Z9} {q2:List Int} {i s o:Int} (hv:ZN t=true) (hp:ZA t (q2++[i,s]++[o])=true):Zz t (q2++[i,s]++[o])=some ⟨q2,i,s,ZY (ZM t q2).1 i⟩:=by
 obtain⟨h4,hi,hk,h7,_⟩:=Tc hp;have e1:(Y6 t q2 i).1=ZY (ZM t q2).1 i:=by
  unfold Y6;rw[TF hv h4,if_neg (by simp),if_neg (by simp only;omega)];simp only[WA,ZY]
 unfold Zz;rw[if_neg (by simp)];simp only[List.append_assoc,List.cons_append,List.nil_append,List.length_append,List.length_cons,List.length_nil,Nat.zero_add,Nat.reduceAdd,Nat.add_sub_cancel,List.take_left'];have g1:(q2++[i,s,o]).getD q2.length 0=i:=by rw[List.getD_eq_getElem?_getD,List.getElem?_append_right (Nat.le_refl _)];simp
 have g2:(q2++[i,s,o]).getD (q2.length+3-2) 0=s:=by rw[List.getD_eq_getElem?_getD,List.getElem?_append_right (by omega),show q2.length+3-2-q2.length=1 by omega];rfl
 rw[g1,g2,e1]
