/- T -/
import Derived.Test.YthpngeboknmllaaGreatQ15e7
set_option linter.unusedVariables false
set_option linter.unusedSimpArgs false
namespace Go.Proofs.YthpngeboknmllaaGreat
open Go.RowKit
theorem Ty (t:Z9) (p m:List Int) (A Ap Am:Option Addr) (cap cp cm:Nat) (w:World):∃W0,((w.alloc (.cells #[.int .i64 t.kind,.string t.text,.int .i64 t.cols,.slice A t.kids.length cap] 24)).alloc (.cells #[.slice Ap p.length cp,.slice Am m.length cm] 27)).alloc (.cells #[.slice none 0 0,.slice none 0 0,.slice none 0 0,.slice none 0 0,.slice none 0 0] 35)=W0 /\
  Below w.heap.size w W0/\Z5 W0 w.heap.size (.cells #[.int .i64 t.kind,.string t.text,.int .i64 t.cols,.slice A t.kids.length cap] 24)/\Z5 W0 (w.heap.size+1) (.cells #[.slice Ap p.length cp,.slice Am m.length cm] 27)/\Hid (Z5 W0 (w.heap.size+1+1) (.cells #[.slice none 0 0,.slice none 0 0,.slice none 0 0,.slice none 0 0,.slice none 0 0] 35)) :=
 ⟨_,rfl,Zq (Zq (ZX _ _) _) _,((Z5.at0 _ _).al _).al _,(Z5.at1 _ _ _).al _,Z5.at2 _ _ _ _⟩
theorem RV (t:Z9) (p m:List Int) (A Ap Am:Option Addr) (cap cp cm:Nat) (w:World):∀W,Z5 W w.heap.size (.cells #[.int .i64 t.kind,.string t.text,.int .i64 t.cols,.slice A t.kids.length cap] 24)->Z5 W (w.heap.size+1) (.cells #[.slice Ap p.length cp,.slice Am m.length cm] 27)->W.cell? ⟨w.heap.size,0,none⟩=some (.int .i64 t.kind)/\W.cell? ⟨w.heap.size,1,none⟩=some (.string t.text)/\W.cell? ⟨w.heap.size,2,none⟩=some (.int .i64 t.cols)/\W.cell? ⟨w.heap.size,3,none⟩=some (.slice A t.kids.length cap)/\W.cell? ⟨w.heap.size+1,0,none⟩=some (.slice Ap p.length cp)/\W.cell? ⟨w.heap.size+1,1,none⟩=some (.slice Am m.length cm) :=
 fun W h1 h2=>⟨h1.cell 0,h1.cell 1,h1.cell 2,h1.cell 3,h2.cell 0,h2.cell 1⟩
section
variable {w1 X:World} {old cs:Array Value} {T:TypeId} (hX:(w1.alloc (.cells old T)).setRow w1.heap.size cs=X)
include hX
theorem XK:Z5 X w1.heap.size (.cells cs T):=by rw[<-hX];exact(Z5.at0 w1 _).row _
theorem YL:Below w1.heap.size w1 X:=by rw[<-hX];exact YV (ZX w1 _) (QT _) _
theorem Td {g:Nat} {c:Array Value} {T':TypeId} (h:Z5 w1 g (.cells c T')):Z5 X g (.cells c T'):=by rw[<-hX];exact(setRow_other _ _ _ _ (Nat.ne_of_lt h.lt)).trans (h.al _)
theorem Te {w:World} (h:Below w.heap.size w w1):Below w.heap.size w X:=by rw[<-hX];exact YV (h.trans ((ZX w1 _).mono h.size)) h.size _
end
theorem zVd {t:Z9} {q2:List Int} {i s o:Int} (hv:ZN t=true) (hp:ZA t (q2++[i,s]++[o])=true):Zd (ZY (ZM t q2).1 i)=true/\(ZY (ZM t q2).1 i).kind≠1:=by
 obtain⟨h4,hi,hk,h7,_⟩:=Tc hp;have aa:=X0 hv;obtain⟨h1,h2⟩:=R8 q2 t h4 aa.2.2.1 aa.2.1;have f1:=Wo h1 hi.2;rw[<-Yq hi.2,h2] at f1;exact⟨f1.1,by simpa using f1.2⟩
theorem zTl {it:Z9} (h:Zd it=true):Zw it.kind it.cols it.kids.length=true:=by
 obtain⟨k,x,c,l⟩:=it;rw[Zd] at h;simp only[Bool.and_eq_true] at h;exact h.1.2
theorem Vt {it:Z9} (h:Zd it=true) (hk:it.kind=11\/it.kind=10):it.cols=0/\it.kids.length=1:=by
 have h2:=zTl h;unfold Zw at h2;rw[if_neg (by omega)] at h2;by_cases hc:it.cols=0
 ·rw[if_neg (by simpa using hc),if_neg (by omega),if_neg (by omega),if_neg (by omega),if_neg (by omega),if_pos (by omega)] at h2;exact⟨hc,by simp at h2;omega⟩
 rw[if_pos hc] at h2;cases h2
def zT4 (t:Z9) (p m q2:List Int) (i o:Int) (it:Z9) (its:List Z9):Za×Int :=
 XW t p m ((if o<(its.length:Int) then [Yn (q2++[i,0]) o (its.drop o.toNat)] else [])++[Yc q2 (i+1) [.mk it.kind it.text 0 [Z6 (its.drop o.toNat)]]]) (q2++[i+1,0,0]) []
theorem zSp (t:Z9) (p m:List Int):((ZI t p m).2≠0->XM t p m=(Zo,(ZI t p m).2))/\((ZI t p m).2=0->Zz t p=none->XM t p m=(Zo,8)) /\
  (∀rr ra rb q2 i (s':Nat) it its o,ZI t p m=((rr,ra,rb),0)->Zz t p=some ⟨q2,i,(s':Int),it⟩->p=q2++[i,(s':Int)]++[o]->(h:s'<it.kids.length)->it.kids[s']=Z6 its ->
   ((ra<rb\/(it.kind≠11/\it.kind≠10))->XM t p m=(Zo,7)) /\
   (¬(ra<rb\/(it.kind≠11/\it.kind≠10))->s'=0/\XM t p m=zT4 t p m q2 i o it its)):=by
 refine⟨fun h=>?_,fun h h1=>?_,fun rr ra rb q2 i s' it its o h h1 hp h2 h3=>⟨fun hc=>?_,fun hc=>?_⟩⟩
 ·unfold XM;rw[if_pos h]
 ·unfold XM;rw[if_neg (by simp[h]),h1]
 ·unfold XM;rw[h,if_neg (by simp),h1];simp only;rw[if_pos hc]
 obtain⟨hv,af,_⟩:=VM (t:=t) (p:=p) (m:=m) (by rw[h]);have aa:=af;rw[hp] at aa;have ha:=Q8 hv aa;rw[<-hp,h1] at ha;obtain⟨g4,gi,gk,g7,go1,ai⟩:=Tc aa;obtain⟨f1,f2⟩:=zVd hv aa;have he:it=ZY (ZM t q2).1 i:=by injection ha with ha;injection ha
 rw[<-he] at f1 f2 gk g7 ai;obtain⟨c1,c2⟩:=Vt f1 (by omega);have hs:s'=0:=by omega
 subst hs;have ak:ZY it ((0:Nat):Int)=Z6 its:=by rw[Yq (by simpa using h2)];exact h3
 rw[ak] at g7 ai;have ae:ZR t (q2++[i,((0:Nat):Int)])=(Z6 its,0):=by rw[TF hv (TE aa).1,g7]
 have au:o<=(its.length:Int):=by simpa[Z6,Z9.kids] using ai
 have av:Yp t (q2++[i,((0:Nat):Int)]) o (its.length:Int)=(its.drop o.toNat,0):=by
  unfold Yp;rw[ae,if_neg (by simp),if_neg (by simp only[Z6,Z9.kids];omega)];simp[Z6,Z9.kids]
 have e2:p.getLastD 0=o:=by rw[hp];simp
 have ah:Zp it 0 (its.drop o.toNat)=.mk it.kind it.text 0 [Z6 (its.drop o.toNat)]:=by
  obtain⟨k,x,c,l⟩:=it;simp only[Z9.cols,Z9.kids] at c1 c2;subst c1
  match l,c2 with
  |[a],_=>rfl
 refine⟨rfl,?_⟩;unfold XM zT4 SG;rw[h,if_neg (by simp),h1];simp only;rw[if_neg hc,e2,ak];simp only[Z6,Z9.kids];have ag:Yp t (q2++[i,0]) o (its.length:Int)=(its.drop o.toNat,0):=av;simp only[Int.toNat_natCast,Int.natCast_zero,ag];rw[show Zp it (Int.toNat 0) (its.drop o.toNat)=_ from ah];have e:(if (its.drop o.toNat).length=0 then [] else [Yn (q2++[i,0]) o (its.drop o.toNat)])=(if o<(its.length:Int) then [Yn (q2++[i,0]) o (its.drop o.toNat)] else []):=by
  by_cases aj:o<(its.length:Int)
  ·rw[if_pos aj,if_neg (by simp;omega)]
  rw[if_neg aj,if_pos (by simp;omega)]
 rw[e];rfl
