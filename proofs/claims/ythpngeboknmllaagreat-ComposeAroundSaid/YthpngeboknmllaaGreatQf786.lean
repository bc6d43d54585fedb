/- T -/
import Derived.Test.YthpngeboknmllaaGreatQb6ef
import Derived.Test.YthpngeboknmllaaGreatQb899
import Derived.Test.YthpngeboknmllaaGreatQce6e
import Derived.Test.YthpngeboknmllaaGreatQ4fd7
import Derived.Lib.LazyBuf
import Derived.ProofKit
import Derived.OpenShut
import Derived.Carry
set_option linter.unusedVariables false
set_option linter.unusedSimpArgs false
set_option maxHeartbeats 8000000
set_option maxRecDepth 100000
namespace Go.Proofs.YthpngeboknmllaaGreat
open Go.RowKit
theorem zNb (p m:List Int) (Ap Am:Option Addr) (cp cm:Nat) (w:World) (hp:Z0 w (Lt w.heap.size) p (.slice Ap p.length cp)) (hm:Z0 w (Lt w.heap.size) m (.slice Am m.length cm)) (ax:p.length<=1000000) (aB:m.length<=1000000) :
  Calls Tryz.prog 58 #[.agg #[.slice Ap p.length cp,.slice Am m.length cm]] w fun e w'=>∃aI aD aJ aF,e=.returned (.agg #[.slice aI p.length aD,.slice aJ m.length aF])/\Z0 w' (U0 w w') p (.slice aI p.length aD)/\Z0 w' (U0 w w') m (.slice aJ m.length aF)/\Below w.heap.size w w':=by
 obtain⟨W0,ag⟩:∃W0,(w.alloc (.cells #[.slice Ap p.length cp,.slice Am m.length cm] 27)).alloc (.cells #[.slice none 0 0,.slice none 0 0] 27)=W0:=⟨_,rfl⟩;have av:W0.heap.size=w.heap.size+1+1:=by rw[<-ag];simp
 have af:Below w.heap.size w W0:=by rw[<-ag];exact((QQ _ _).alloc (QT _) _).alloc (by simp) _
 have KB:Hid (∀W,Below W0.heap.size W0 W->W.cell? ⟨w.heap.size,0,none⟩=some (.slice Ap p.length cp)/\W.cell? ⟨w.heap.size,1,none⟩=some (.slice Am m.length cm)/\W.cell? ⟨w.heap.size+1,0,none⟩=some (.slice none 0 0)/\W.cell? ⟨w.heap.size+1,1,none⟩=some (.slice none 0 0)/\W.frozen? ⟨w.heap.size+1,0,none⟩=false/\W.frozen? ⟨w.heap.size+1,1,none⟩=false/\Below w.heap.size w W):=fun W hW=>by
  have aA:Z5 W w.heap.size (.cells #[.slice Ap p.length cp,.slice Am m.length cm] 27):=Z5.belowB (by rw[<-ag];exact(Z5.at0 _ _).al _) hW (by omega);have ae:Z5 W (w.heap.size+1) (.cells #[.slice none 0 0,.slice none 0 0] 27):=Z5.belowB (by rw[<-ag];exact Z5.at1 _ _ _) hW (by omega);exact⟨aA.cell 0,aA.cell 1,ae.cell 0,ae.cell 1,ae.free 0,ae.free 1,af.trans (hW.mono af.size)⟩
 have CI:Hid (∀W,Below w.heap.size w W->Calls Tryz.prog 99 #[.slice Ap p.length cp] W (Wl W p)):=fun W hW=>zEe p W _ (hp.below hW hW.size) ax
 have CM:Hid (∀W,Below w.heap.size w W->Calls Tryz.prog 99 #[.slice Am m.length cm] W (Wl W m)):=fun W hW=>zEe m W _ (hm.below hW hW.size) aB
 have aQ:=hid af;have aG:=hid av;obtain⟨m0,m1,r0,r1,f0,f1,_⟩:=KB.out W0 (QQ _ _);clear hp hm ax aB af av;go_enter Tryz.func58,Tryz.ntmps58
 go_wp2_with fail
 go_region_held3 (fun w'=>w'.cell? ⟨w.heap.size,0,none⟩=some (.slice Ap p.length cp)/\w'.cell? ⟨w.heap.size,1,none⟩=some (.slice Am m.length cm)) (go_keep) (first
  |(go_at_call 99;refine(CI.out _ (XF aQ.out)).mono ?_;rintro e w3 ⟨v3,rfl,az,aC⟩;have aj:Z0 w3 (fun k=>W0.heap.size<=k/\k<w3.heap.size) p v3:=az.ints (fun k h1 h2=>⟨h1,h2⟩);obtain⟨A3,c3,rfl⟩:=aj.form;have aO:=hid aj;have ah:=hid (Xt aC);obtain⟨m0,m1,r0,r1,f0,f1,aa⟩:=KB.out w3 ah.out;have aM:=hid aa;clear aj az aC aa)
  |(go_at_call 99;refine(CM.out _ aM.out).mono ?_;rintro e w4 ⟨v4,rfl,ay,ak⟩;have ai:Z0 w4 (fun k=>w3.heap.size<=k/\k<w4.heap.size) m v4:=ay.ints (fun k h1 h2=>⟨h1,h2⟩);obtain⟨A4,c4,rfl⟩:=ai.form;have aN:=hid ai;have aH:=hid ak;have aP:=hid (ah.out.trans (ak.mono ah.out.size));obtain⟨m0,m1,r0,r1,f0,f1,aa⟩:=KB.out w4 aP.out;have aL:=hid aa;clear ai ay ak aa)
  |fail)
 go_wp2_with fail
 have h9:∀q:Addr,W0.heap.size<=q.block->((w4.setCell ⟨w.heap.size+1,0,none⟩ (.slice A3 p.length c3)).setCell ⟨w.heap.size+1,1,none⟩ (.slice A4 m.length c4)).cell? q=w4.cell? q:=fun q hq=>by
  have:=aG.out;rw[World.cell?_setCell_other _ _ _ _ (by intro e;rw[<-e] at hq;simp only at hq;omega),World.cell?_setCell_other _ _ _ _ (by intro e;rw[<-e] at hq;simp only at hq;omega)]
 have e0:((w4.setCell ⟨w.heap.size+1,0,none⟩ (.slice A3 p.length c3)).setCell ⟨w.heap.size+1,1,none⟩ (.slice A4 m.length c4)).cell? ⟨w.heap.size+1,0,none⟩=some (.slice A3 p.length c3):=(World.cell?_setCell_other _ _ _ _ (by intro e;injection e with e e';cases e')).trans (World.cell?_setCell_same _ _ _ r0);have e1:((w4.setCell ⟨w.heap.size+1,0,none⟩ (.slice A3 p.length c3)).setCell ⟨w.heap.size+1,1,none⟩ (.slice A4 m.length c4)).cell? ⟨w.heap.size+1,1,none⟩=some (.slice A4 m.length c4):=World.cell?_setCell_same _ _ _ ((World.cell?_setCell_other _ _ _ _ (by intro e;injection e with e e';cases e')).trans r1);have aK:=(aL.out.setCell (p:=⟨w.heap.size+1,0,none⟩) (Nat.le_succ _) (.slice A3 p.length c3)).setCell (p:=⟨w.heap.size+1,1,none⟩) (Nat.le_succ _) (.slice A4 m.length c4);have au:((w4.setCell ⟨w.heap.size+1,0,none⟩ (.slice A3 p.length c3)).setCell ⟨w.heap.size+1,1,none⟩ (.slice A4 m.length c4)).heap.size=w4.heap.size:=by simp[World.setCell]
 have h3:=ah.out.size;have h4:=aH.out.size;have hz:=aG.out;refine bodyPost_ret (v:=.agg #[.slice A3 p.length c3,.slice A4 m.length c4]) (by simp[results,Tryz.results58,go_sem,e0,e1]) rfl ?_;exact⟨A3,c3,A4,c4,rfl,aO.out.keep (fun q hq=>(h9 q hq.1).trans (aH.out.cell hq.2)) (fun k hk=>⟨by have:=hk.1;omega,by rw[au];exact QV hk.2 h4⟩),aN.out.keep (fun q hq=>h9 q (by have:=hq.1;omega)) (fun k hk=>⟨by have:=hk.1;omega,by rw[au];exact hk.2⟩),aK⟩
def UY (T:TypeId) (z:Value) (size bytes:Nat):Prop:=∃i,Tryz.prog.info? T=some i/\i.zero=some z/\i.size=size/\i.bytes=bytes
def Y7 {α:Type} (E:YW α) (T:TypeId) (w:World) (b:Nat) (ts:List α) (v:Value):Prop:=∃cs,w.ownsRow b T E.size v ts.length cs/\ZK E w (Yj b w v) ts cs
section
variable {α:Type} {E:YW α} {T:TypeId}
theorem Y7.rows {w:World} {b:Nat} {ts:List α} {v:Value} (h:Y7 E T w b ts v):Z8 E w (fun k=>b<=k/\k<w.heap.size) ts v:=by
 obtain⟨cs,h1,h2⟩:=h;exact Z8.of_own (E:=E) h1 (fun k hk=>⟨(h1.lt k hk).1,(h1.lt k hk).2⟩) (h2.keep (WI _ _) (fun k hk=>⟨hk.1,hk.2.1⟩))
theorem Y7.nil (w:World) (b:Nat):Y7 E T w b [] (.slice none 0 0):=⟨[],World.ownsRow_nil _ _ _ _,rfl⟩
theorem Y7.below {w w':World} {b:Nat} {ts:List α} {v:Value} (h:Y7 E T w b ts v) (hb:Below w.heap.size w w'):Y7 E T w' b ts v:=by
 obtain⟨cs,h1,h2⟩:=h;exact⟨cs,Si _ h1 hb,h2.keep (S:=Yj b w v) (fun p hp=>hb.cell hp.2.1) (fun k hk=>⟨hk.1,QV hk.2.1 hb.size,hk.2.2⟩)⟩
theorem Y7.own_lt {w:World} {b:Nat} {ts:List α} {v:Value} (h:Y7 E T w b ts v):∀k,v.ownBlock=some k->b<=k/\k<w.heap.size:=by
 obtain⟨cs,h1,_⟩:=h;exact fun k hk=>h1.lt k hk
theorem Y7.form {w:World} {b:Nat} {ts:List α} {v:Value} (h:Y7 E T w b ts v):∃A c,v=.slice A ts.length c:=h.rows.form
variable {w:World} {b:Nat} {xss yss:List α} {v:Value}
theorem zOr {w':World} {v':Value} {cs rs:List Value} (h1:w.ownsRow b T E.size v xss.length cs) (h2:ZK E w (Yj b w v) xss cs) (aa:ZK E w (Yj b w v) yss rs)
  (h3:w'.ownsRow b T E.size v' (xss.length+yss.length) (cs++rs)) (h4:w.grownBy w' v.ownBlock) (h5:v'.ownBlock=v.ownBlock\/v'.ownBlock=some w.heap.size):Y7 E T w' b (xss++yss) v':=by
 refine⟨cs++rs,by rw[List.length_append];exact h3,?_⟩;refine(h2.append aa).keep (S:=Yj b w v) (fun p hp=>World.cell?_of_block (h4.block p.block hp.2.1 hp.2.2)) (fun k hk=>⟨hk.1,QV hk.2.1 h4.size,?_⟩);rcases h5 with h5|h5
 ·rw[h5];exact hk.2.2
 rw[h5];intro e;injection e with e;have:=hk.2.1;omega
theorem Rp {w2:World} {b b2:Nat} {t:α} {v:Value} {arr:Array Value} (hR:E.R w2 (fun k=>b2<=k/\k<w2.heap.size) t arr.toList) (hb:b<=b2) (hv:∀k,v.ownBlock=some k->k<b2) (h2:b2<=w2.heap.size) (g:Nat) (hg:g=w2.heap.size) (e:TypeId) :
  Z8 E (w2.alloc (.cells arr e)) (Yj b (w2.alloc (.cells arr e)) v) [t] (.slice (some ⟨g,0,none⟩) 1 1):=by
 subst hg;have hi:=E.keep (w':=w2.alloc (.cells arr e)) (S':=Yj b (w2.alloc (.cells arr e)) v) hR (fun p hp=>(Xx _ _).cell hp.2) (fun k hk=>⟨QP hb hk.1,by simp;omega,fun e=>by have:=hv k e.symm;omega⟩);refine⟨_,_,arr.toList,rfl,QT _,by simp[maxLen],fun _=>⟨w2.heap.size,0,rfl,⟨by omega,by simp,fun e=>by have:=hv _ e.symm;omega⟩,fun j x hx=>?_⟩,ZK.single hi⟩;rw[Nat.zero_add,World.cell?_alloc_new];simpa using hx
end
theorem Rn (L:List Z9):Zt (Z6 L):=⟨by unfold Z4;simp[Z6,Z9.kind],by unfold Z4;simp[Z6,Z9.cols],show (⟨#[]⟩:ByteArray).size<=maxLen from QU _⟩
theorem zIq {W W':World} {T:Nat->Prop} (hL:Xh W T) (hT:∀k,T k->k<W.heap.size) {B:Nat} {t:Z9} {s b x c:Nat} (hB:¬T B) (hN:YA W T B 0 t) (hs:s<t.kids.length) (h3:W.cell? ⟨B,3,none⟩=some (.slice (some ⟨b,x,none⟩) t.kids.length c)) (hb:T b)
  {L0 L:List Z9} (hk:t.kids[s]=Z6 L0) {vL:Value} {S2 T':Nat->Prop} (ai:Z8 Z7 W S2 L vL) (av:∀q,S2 q->q≠b/\q<W.heap.size) (ak:∀k,T k->T' k) (au:∀k,S2 k->T' k) (ag:W'=W.setCell ⟨b,x+s*4+3,none⟩ vL):YA W' T' B 0 (Zp t s L):=by
 have ax:B≠b:=fun e=>hB (e ▸ hb)
 have hsz:W'.heap.size=W.heap.size:=by rw[ag];simp[World.setCell]
 have ah:=Sa hN (by simpa using h3) hs;rw[hk] at ah;obtain⟨v0,⟨k0,k1,k2,k3⟩,_,_⟩:=ah;have aa:∀q:Addr,q≠⟨b,x+s*4+3,none⟩->W'.cell? q=W.cell? q:=fun q hq=>by rw[ag];exact World.cell?_setCell_other _ _ _ _ (Ne.symm hq)
 have ae:YA W' T' b (x+s*4) (Z6 L) :=
  ⟨vL,⟨(aa ⟨b,x+s*4,none⟩ (by simp)).trans k0,(aa ⟨b,x+s*4+1,none⟩ (by simp)).trans k1,(aa ⟨b,x+s*4+2,none⟩ (by simp)).trans k2,by rw[ag];exact World.cell?_setCell_same _ _ _ k3⟩,Rn L,
   ai.keep (fun q hq=>aa q (fun e=>(av _ hq).1 (by rw[e]))) au⟩
 have af:Xa W T B 0 t [s] b (x+s*4):=.step B 0 t s [] b x c hs _ _ h3 hb (.here _ _ _);exact zK3 (T':=T') hL (Z6 L) (fun q hq aj=>aa q (by rintro rfl;rcases aj rfl with h|h<;>simp at h<;>omega)) ak ae af (.inr ⟨hB,fun j _=>aa _ (fun e=>ax (by injection e))⟩) hN
theorem zGo {W:World} {T:Nat->Prop} {ts:List Z9} {v:Value} (h:Z8 Z7 W T ts v) (h0:0<ts.length):∃b x c,v=.slice (some ⟨b,x,none⟩) ts.length c/\T b:=by
 obtain⟨A,cap,rs,rfl,_,_,h3,h4⟩:=h;have hl:=h4.len;obtain⟨g,o,rfl,hg,_⟩:=h3 (by rw[hl];exact Nat.mul_pos h0 Z7.pos);exact⟨g,o,cap,rfl,hg⟩
theorem zPx {W W':World} {T S2 T':Nat->Prop} (hL:Xh W T) (hT:∀k,T k->k<W.heap.size) {B:Nat} {t:Z9} {p:List Int} {l:List Z9} {g o:Nat} (hB:¬T B) (hN:YA W T B 0 t) (hf:(ZM t p).2=true) (aa:Xa W T B 0 t (p.map Int.toNat) g o)
  {t':Z9} (av:YA W T g o t') {v:Value} (hv:Z8 Z7 W S2 l v) (ag:∀q,S2 q->¬T q/\q≠B/\q<W.heap.size)
  (ak:∀k,T k->T' k) (au:∀k,S2 k->T' k) (hW:W'=(((W.setCell ⟨g,o,none⟩ (.int .i64 1)).setCell ⟨g,o+1,none⟩ (.string ⟨#[]⟩)).setCell ⟨g,o+2,none⟩ (.int .i64 0)).setCell ⟨g,o+3,none⟩ v):YA W' T' B 0 (ZV t p l):=by
 obtain⟨v0,⟨d0,d1,d2,d3⟩,_⟩:=av;obtain⟨r,hz,_,af,_,_⟩:=Xz d0 d1 d2 d3 (.int .i64 1) (.string ⟨#[]⟩) (.int .i64 0) v hW;have ai:∀q,S2 q->q≠g:=fun q hq e=>by
  subst e;rcases aa.where_ with ⟨_,h,_⟩|h
  ·exact(ag _ hq).2.1 h
  exact(ag _ hq).1 h.mem
 have ae:YA W' T' g o (Z6 l):=⟨v,r,Rn l,hv.keep (fun q hq=>af q (ai _ hq)) au⟩;rcases aa.where_ with ⟨h1,rfl,rfl⟩|h
 ·have:p=[]:=List.map_eq_nil_iff.1 h1;subst this;exact ae
 rw[zJb p t l hf];have aj:B≠g:=fun e=>hB (e ▸ h.mem)
 refine zK3 (T':=T') hL (Z6 l) (fun q hq ah=>?_) ak ae aa (.inr ⟨hB,fun j _=>af _ aj⟩) hN;have h9:∀j,j<4->(⟨g,o+j,none⟩:Addr)≠q:=fun j hj e=>by
  have h8:=ah (by rw[<-e]);rw[<-e] at h8;rcases h8 with h8|h8<;>simp at h8<;>omega
 rw[hW,World.cell?_setCell_other _ _ _ _ (h9 3 (by omega)),World.cell?_setCell_other _ _ _ _ (h9 2 (by omega)),World.cell?_setCell_other _ _ _ _ (h9 1 (by omega))];exact World.cell?_setCell_other _ _ _ _ (h9 0 (by omega))
def Sn (w:World) (b:Bool) (L:List (List Int)) (e:Ending) (w':World):Prop :=
 Below w.heap.size w w'/\((b=false/\e=.returned (.tuple #[.slice none 0 0,.int .i64 1]))\/(b=true/\∃v,e=.returned (.tuple #[v,.int .i64 0])/\Yk w' w.heap.size L v))
theorem zNx (t:Z9) (A:Option Addr) (cap:Nat) (w:World) (hv:Z8 Z7 w (Lt w.heap.size) t.kids (.slice A t.kids.length cap)) (ah:t.text.size<=maxLen) (aj:ZW t<=900000) :
  Calls Tryz.prog 67 #[.agg #[.int .i64 t.kind,.string t.text,.int .i64 t.cols,.slice A t.kids.length cap]] w (Sn w (ZN t) (Zh [] t)):=by
 have af:Hid (Below w.heap.size w (w.alloc (Obj.cells #[.int .i64 t.kind,.string t.text,.int .i64 t.cols,.slice A t.kids.length cap] 24))):=Xx _ _;have C1:Hid (∀W,Below w.heap.size w W->Calls Tryz.prog 29 #[.agg #[.int .i64 t.kind,.string t.text,.int .i64 t.cols,.slice A t.kids.length cap]] W fun e w'=>e=.returned (.bool (ZN t))/\Below W.heap.size W w'):=fun W hW=>Tm t A cap W (hv.below hW hW.size) ah (by omega)
 have C2:Hid (∀W,Below w.heap.size w W->Calls Tryz.prog 106 #[.agg #[.int .i64 t.kind,.string t.text,.int .i64 t.cols,.slice A t.kids.length cap],.slice none 0 0] W (QX W (Zh [] t))) :=
  fun W hW=>U2 t [] A none cap 0 W (hv.below hW hW.size) (Z8.nil_ 0 (by simp) none) (by simp;omega)
 have KB:Hid (∀W,Below (w.alloc (Obj.cells #[.int .i64 t.kind,.string t.text,.int .i64 t.cols,.slice A t.kids.length cap] 24)).heap.size (w.alloc (Obj.cells #[.int .i64 t.kind,.string t.text,.int .i64 t.cols,.slice A t.kids.length cap] 24)) W->Yu W w.heap.size t.kind t.cols t.text (.slice A t.kids.length cap)) :=
  fun W hW=>(Yu.new w t.kind t.cols t.text _).below hW (by simp)
 generalize Zh [] t=L at *;generalize ZN t=b at *;obtain⟨tk,tx,tc,ts⟩:=t;simp only[Z9.kind,Z9.text,Z9.cols,Z9.kids] at *;clear hv ah aj;cases b
 ·go_enter Tryz.func67,Tryz.ntmps67
  go_wp2_with fail
  refine(C1.out _ af.out).mono ?_;rintro e w1 ⟨rfl,aa⟩;have ae:=hid (af.out.trans (aa.mono af.out.size));clear aa
  go_wp2_with fail
  go_ret2
  exact⟨ae.out,.inl ⟨rfl,rfl⟩⟩
 go_enter Tryz.func67,Tryz.ntmps67
 go_wp2_with fail
 refine(C1.out _ af.out).mono ?_;rintro e w1 ⟨rfl,aa⟩;have ae:=hid (af.out.trans (aa.mono af.out.size));obtain⟨p0,p1,p2,p3⟩:=KB.out w1 aa;clear aa
 go_wp2_with fail
 refine(C2.out _ ae.out).mono ?_;rintro e w2 ⟨v2,rfl,ag,ai⟩;obtain⟨A2,c2,rfl⟩:=ag.rows.form;have ak:=hid (ag.base ae.out.size);have au:=hid (ae.out.trans (ai.mono ae.out.size));clear ag ai p0 p1 p2 p3
 go_wp2_with fail
 go_ret2
 exact⟨au.out,.inr ⟨rfl,_,rfl,ak.out⟩⟩
theorem zEt {B:Nat} {a w:World} (h:Below B a w) (n:Nat):Below B a (w.drewN n):=⟨h.os,h.tape,h.output,h.size,h.block⟩
theorem zQv {B:Nat} {a w:World} (h:Below B a w) (n m:Nat):Below B a ((w.drewN n).drewN m):=⟨h.os,h.tape,h.output,h.size,h.block⟩
def Yy (l:List (List Int)) (p:List Int):Option Nat:=l.findIdx? (fun q=>decide (ZP q p=0))
theorem zQe (l:List (List Int)) (p:List Int) {k:Nat} (h:k<l.length) (hn:Yy (l.take k) p=none) (hk:ZP l[k] p≠0):Yy (l.take (k+1)) p=none:=by
 unfold Yy at *;rw[List.findIdx?_eq_none_iff] at *;intro x hx;rw[List.take_succ_eq_append_getElem h,List.mem_append] at hx;rcases hx with hx|hx
 ·exact hn x hx
 simp only[List.mem_singleton] at hx;subst hx;simpa using hk
theorem Ui (l:List (List Int)) (p:List Int) {k:Nat} (h:k<l.length) (hn:Yy (l.take k) p=none) (hk:ZP l[k] p=0):Yy l p=some k:=by
 unfold Yy at *;rw[List.findIdx?_eq_none_iff] at hn;rw[List.findIdx?_eq_some_iff_getElem];refine⟨h,by simpa using hk,fun j hj=>?_⟩;have:=hn (l[j]'(by omega)) (by rw[List.mem_iff_getElem];exact⟨j,by simp;omega,by simp⟩);simpa using this
theorem zIa (t:Z9) (p:List Int):(Yy (Zh [] t) p).isSome=ZA t p:=by
 rw[Bool.eq_iff_iff,<-zKj];unfold Yy;rw[List.findIdx?_isSome,List.any_eq_true];constructor
 ·rintro ⟨q,hq,h⟩;have:q=p:=(zE8 _ _).1 (by simpa using h);rw[<-this];exact hq
 intro h;exact⟨p,h,by simp[zGf]⟩
def Sw (w:World) (b:Bool) (L:List (List Int)) (p:List Int) (e:Ending) (w':World):Prop :=
 Below w.heap.size w w'/\((b=false/\e=.returned (.tuple #[.int .i64 0,.int .i64 1]))\/(b=true/\((Yy L p=none/\e=.returned (.tuple #[.int .i64 0,.int .i64 2]))\/∃i:Nat,i<L.length/\Yy L p=some i/\e=.returned (.tuple #[.int .i64 i,.int .i64 0]))))
theorem zNl (t:Z9) (h:ZW t<=900000):(Zh [] t).length<=2000000:=by rw[zHl];have:=zKp t;omega
theorem zJa (t:Z9) (p:List Int) (A:Option Addr) (cap:Nat) (b:Value) (w:World) (hv:Z8 Z7 w (Lt w.heap.size) t.kids (.slice A t.kids.length cap)) (ai:t.text.size<=maxLen) (ah:ZW t<=900000) (hp:Z0 w (Lt w.heap.size) p b) :
  Calls Tryz.prog 31 #[.agg #[.int .i64 t.kind,.string t.text,.int .i64 t.cols,.slice A t.kids.length cap],b] w (Sw w (ZN t) (Zh [] t) p):=by
 have ae:Hid (Below w.heap.size w (w.alloc (Obj.cells #[.int .i64 t.kind,.string t.text,.int .i64 t.cols,.slice A t.kids.length cap] 24))):=Xx _ _;have C1:=hid (zNx t A cap _ (hv.below ae.out ae.out.size) ai ah);have HP:Hid (∀W,Below w.heap.size w W->Z0 W (Lt W.heap.size) p b):=fun W h=>hp.below h h.size
 have HL:=zNl t ah;obtain⟨A',cap',rfl⟩:=hp.form;generalize Zh [] t=L at *;generalize ZN t=b at *;obtain⟨tk,tx,tc,ts⟩:=t;simp only[Z9.kind,Z9.text,Z9.cols,Z9.kids] at *;clear hv ai ah hp;go_enter Tryz.func31,Tryz.ntmps31
 go_wp2_with fail
 refine C1.out.mono ?_;rintro e w1 ⟨ag,(⟨rfl,rfl⟩|⟨rfl,v,rfl,hr⟩)⟩
 ·have aa:=hid (ae.out.trans (ag.mono ae.out.size));clear ag
  go_wp2_with fail
  go_ret2
  exact⟨aa.out,.inl ⟨rfl,rfl⟩⟩
 have aa:=hid (ae.out.trans (ag.mono ae.out.size));obtain⟨A2,c2,rfl⟩:=hr.rows.form;have HR:=hid hr.rowsLt;clear ag hr
 go_wp2_with fail
 go_loopw [8] (fun i wr=>(∃n,wr=w1.drewN n)/\∃k:Nat,k<=L.length/\i=.int .i64 k/\Yy (L.take k) p=none) (fun i _=>L.length-(intOf i).toNat)
 case atStart=>exact⟨⟨0,rfl⟩,0,QU _,rfl,by simp[Yy]⟩
 obtain⟨⟨n,rfl⟩,k,hk,rfl,ak⟩:=hrel;have HN:=hid ak;clear ak;rcases Nat.lt_or_ge k L.length with af|ax
 ·obtain⟨_,_,rs,hq,_,_,aj,au⟩:=HR.out;cases hq;obtain⟨g,o,A3,c3,av,rfl,hg,q0,h5,h6,h7,h8⟩:=zJ5 aj au af;have HC:Hid (Calls Tryz.prog 50 #[.slice A3 L[k].length c3,.slice A' p.length cap'] (w1.drewN n) fun e w'=>e=.returned (.int .i64 (ZP L[k] p))/\∃m,w'=(w1.drewN n).drewN m) :=
   zIn L[k] p (w1.drewN n) _ _ (Lt w1.heap.size) (Lt (w1.drewN n).heap.size) (Z8.keep (w:=w1) (E:=ZF) ⟨_,_,av,rfl,h5,h6,h7,h8⟩ (fun _ _=>rfl) (fun _ h=>h)) (HP.out _ (zEt aa.out n))
  have HLK:Hid (∃z,z=L[k]):=⟨_,rfl⟩;clear aj au h7 h8;by_cases hc:ZP L[k] p=0
  ·have HI:=hid (Ui L p af HN.out hc);have d0:(ZP L[k] p==0)=true:=by simpa using hc
   rw[hc] at HC;clear hc d0
   go_wp2_with fail
   refine HC.out.mono ?_;rintro e w2 ⟨rfl,m,rfl⟩
   go_wp2_with fail
   go_ret2
   refine⟨by first|exact zEt aa.out _|exact zQv aa.out _ _,.inr ⟨rfl,.inr ⟨k,af,HI.out,rfl⟩⟩⟩
  have HI:=hid (zQe L p af HN.out hc);have d0:(ZP L[k] p==0)=false:=by simpa using hc
  clear hc
  go_wp2_with fail
  refine HC.out.mono ?_;rintro e w2 ⟨rfl,m,rfl⟩
  go_wp2_with fail
  go_roundw
  case rel=>exact⟨by first|exact⟨_,rfl⟩|(simp only[World.drewN_drewN];exact⟨_,rfl⟩),k+1,by omega,by go_num,HI.out⟩
  case measure=>simp[intOf];omega
 have HF:Hid (Yy L p=none):=by have:=HN.out;rwa[List.take_of_length_le ax] at this
 go_wp2_with fail
 go_ret2
 exact⟨zEt aa.out _,.inr ⟨rfl,.inl ⟨HF.out,rfl⟩⟩⟩
theorem zI9 (t:Z9) (p:List Int) (A:Option Addr) (cap:Nat) (b:Value) (w:World) (hv:Z8 Z7 w (Lt w.heap.size) t.kids (.slice A t.kids.length cap)) (ag:t.text.size<=maxLen) (ah:ZW t<=900000) (hp:Z0 w (Lt w.heap.size) p b) :
  Calls Tryz.prog 11 #[.agg #[.int .i64 t.kind,.string t.text,.int .i64 t.cols,.slice A t.kids.length cap],b] w fun e w'=>e=.returned (.bool (ZN t&&ZA t p))/\Below w.heap.size w w':=by
 have aa:Hid (Below w.heap.size w (w.alloc (Obj.cells #[.int .i64 t.kind,.string t.text,.int .i64 t.cols,.slice A t.kids.length cap] 24))):=Xx _ _;have C1:=hid (zJa t p A cap b _ (hv.below aa.out aa.out.size) ag ah (hp.below aa.out aa.out.size));have HS:=hid (zIa t p);obtain⟨A',cap',rfl⟩:=hp.form;generalize ZA t p=b2 at *;generalize Zh [] t=L at *;generalize ZN t=b at *;obtain⟨tk,tx,tc,ts⟩:=t;simp only[Z9.kind,Z9.text,Z9.cols,Z9.kids] at *;clear hv ag ah hp;go_enter Tryz.func11,Tryz.ntmps11
 go_wp2_with fail
 refine C1.out.mono ?_;rintro e w1 ⟨ae,(⟨rfl,rfl⟩|⟨rfl,(⟨h1,rfl⟩|⟨i,h0,h1,rfl⟩)⟩)⟩
 ·have af:=hid (aa.out.trans (ae.mono aa.out.size));clear ae
  go_wp2_with fail
  go_ret;exact⟨rfl,af.out⟩
 ·have af:=hid (aa.out.trans (ae.mono aa.out.size));have HF:Hid (b2=false):=by show _=_;rw[<-HS.out,h1];rfl
  clear ae h1
  go_wp2_with fail
  go_ret;exact⟨by rw[HF.out];rfl,af.out⟩
 have af:=hid (aa.out.trans (ae.mono aa.out.size));have HF:Hid (b2=true):=by show _=_;rw[<-HS.out,h1];rfl
 clear ae h1 h0
 go_wp2_with fail
 go_ret;exact⟨by rw[HF.out];rfl,af.out⟩
mutual
theorem zH0:(t:Z9)->(m:Int)->0<=WH t m->WH t m=m-ZW t
 |
  .mk _ _ _ ts,m,h=>by
  rw[WH] at h ⊢
  rw[ZW,zG1 ts (m-1) h];omega
theorem zG1:(ts:List Z9)->(m:Int)->0<=Xq ts m->Xq ts m=m-ZT ts
 |[],m,h=>by rw[Xq,ZT];omega
 |
  t::ts,m,h=>by
  rw[Xq] at h ⊢
  split at h
  ·rename_i h0
   rw[if_pos h0]
   have h1:=zG1 ts (WH t m) h
   have h2:=zH0 t m (by omega)
   rw[h1,h2,ZT];omega
  rename_i h0;omega
end
theorem zLw {t:Z9} {m:Int} (h:Yb t m=true):(ZW t:Int)<=m:=by
 unfold Yb at h;have h':0<=WH t m:=by simpa using h
 have:=zH0 t m h';omega
def Xc (b1 b2 b3:Bool) (r:List Int×Int×Int):(List Int×Int×Int)×Int:=if b1=false then (([],0,0),1) else if (b2&&b3)=false then (([],0,0),2) else (r,0)
def X4 (w:World) (x:(List Int×Int×Int)×Int) (e:Ending) (w':World):Prop :=
 ∃v,e=.returned (.tuple #[.agg #[v,.int .i64 x.1.2.1,.int .i64 x.1.2.2],.int .i64 x.2])/\Z0 w' (fun k=>w.heap.size<=k/\k<w'.heap.size) x.1.1 v/\Below w.heap.size w w'
theorem Tn.v {w w':World} {b1 b2 b3:Bool} {r:List Int×Int×Int} {e:Ending} (h:Tn w b1 b2 b3 r e w'):X4 w (Xc b1 b2 b3 r) e w':=by
 obtain⟨hb,(⟨rfl,rfl⟩|⟨rfl,h2,rfl⟩|⟨rfl,rfl,rfl,v,rfl,hi⟩)⟩:=h
 ·exact⟨_,rfl,Z8.nil_ 0 (by simp) none,hb⟩
 ·unfold Xc;rw[if_neg (by simp),if_pos h2];exact⟨_,rfl,Z8.nil_ 0 (by simp) none,hb⟩
 exact⟨v,rfl,hi,hb⟩
theorem Ur {w:World} {b:Nat} {xs:List Int} {v:Value} {n:Nat} (h:Zi w b xs v):Zi (w.drewN n) b xs v:=h
theorem zGy (t:Z9) (a b:List Int) (A:Option Addr) (cap:Nat) (va vb:Value) (w:World) (hv:Z8 Z7 w (Lt w.heap.size) t.kids (.slice A t.kids.length cap)) (aQ:t.text.size<=maxLen) (aV:ZW t<=900000) (ha:Z0 w (Lt w.heap.size) a va) (hb:Z0 w (Lt w.heap.size) b vb) :
  Calls Tryz.prog 140 #[.agg #[.int .i64 t.kind,.string t.text,.int .i64 t.cols,.slice A t.kids.length cap],va,vb] w (Tn w (ZN t) (ZA t a) (ZA t b) (YC a b)):=by
 obtain⟨Aa,ca,rfl⟩:=ha.form;obtain⟨Ab,cb,rfl⟩:=hb.form;have C1:Hid (∀W,Below w.heap.size w W->Calls Tryz.prog 29 #[.agg #[.int .i64 t.kind,.string t.text,.int .i64 t.cols,.slice A t.kids.length cap]] W fun e w'=>e=.returned (.bool (ZN t))/\Below W.heap.size W w'):=fun W hW=>Tm t A cap W (hv.below hW hW.size) aQ (by omega)
 have C2:Hid (∀W,Below w.heap.size w W->ZN t=true->Calls Tryz.prog 11 #[.agg #[.int .i64 t.kind,.string t.text,.int .i64 t.cols,.slice A t.kids.length cap],.slice Aa a.length ca] W fun e w'=>e=.returned (.bool (ZA t a))/\Below W.heap.size W w'):=fun W hW h=>by
  have:=zI9 t a A cap _ W (hv.below hW hW.size) aQ aV (ha.below hW hW.size);rwa[h,Bool.true_and] at this
 have C3:Hid (∀W,Below w.heap.size w W->ZN t=true->Calls Tryz.prog 11 #[.agg #[.int .i64 t.kind,.string t.text,.int .i64 t.cols,.slice A t.kids.length cap],.slice Ab b.length cb] W fun e w'=>e=.returned (.bool (ZA t b))/\Below W.heap.size W w'):=fun W hW h=>by
  have:=zI9 t b A cap _ W (hv.below hW hW.size) aQ aV (hb.below hW hW.size);rwa[h,Bool.true_and] at this
 have C4:Hid (ZN t=true->ZA t a=true->ZA t b=true->(0<a.length/\0<b.length)/\(a.length<=1000000/\b.length<=1000000)/\(∀x∈a,0<=x/\x<=1000000)/\(∀x∈b,0<=x/\x<=1000000)):=fun h1 h2 h3=>by
  have hc:ZW t<=1000:=by unfold ZN at h1;simp only[Bool.and_eq_true,decide_eq_true_eq] at h1;omega
  obtain⟨x1,x2,x3⟩:=zHf hc h2;obtain⟨y1,y2,y3⟩:=zHf hc h3;exact⟨⟨x1,y1⟩,⟨x2,y2⟩,x3,y3⟩
 have HA:Hid (∀W,Below w.heap.size w W->Z0 W (Lt W.heap.size) a (.slice Aa a.length ca)):=fun W h=>ha.below h h.size
 have HB:Hid (∀W,Below w.heap.size w W->Z0 W (Lt W.heap.size) b (.slice Ab b.length cb)):=fun W h=>hb.below h h.size
 have bN:Hid (YC a b=(a.take (ZE a b),min (a.getD (ZE a b) 0) (b.getD (ZE a b) 0),max (Zj (a.drop (ZE a b))) (Zj (b.drop (ZE a b))))):=rfl;generalize YC a b=r at *;generalize ZA t a=b2 at *;generalize ZA t b=b3 at *;generalize ZN t=b1 at *;obtain⟨tk,tx,tc,ts⟩:=t;simp only[Z9.kind,Z9.text,Z9.cols,Z9.kids] at *;clear hv aQ ha hb aV;generalize aW:(w.alloc (Obj.cells #[.int .i64 tk,.string tx,.int .i64 tc,.slice A ts.length cap] 24)).alloc (.cells #[.slice none 0 0,.int .i64 0,.int .i64 0] 67)=W0;have KB:Hid (∀W,Below W0.heap.size W0 W->(W.cell? ⟨w.heap.size,0,none⟩=some (.int .i64 tk)/\W.cell? ⟨w.heap.size,1,none⟩=some (.string tx)/\W.cell? ⟨w.heap.size,2,none⟩=some (.int .i64 tc)/\W.cell? ⟨w.heap.size,3,none⟩=some (.slice A ts.length cap)) /\
   (W.cell? ⟨w.heap.size+1,0,none⟩=some (.slice none 0 0)/\W.cell? ⟨w.heap.size+1,1,none⟩=some (.int .i64 0)/\W.cell? ⟨w.heap.size+1,2,none⟩=some (.int .i64 0)) /\
   (W.frozen? ⟨w.heap.size+1,0,none⟩=false/\W.frozen? ⟨w.heap.size+1,1,none⟩=false/\W.frozen? ⟨w.heap.size+1,2,none⟩=false)/\Below w.heap.size w W/\w.heap.size+1<W.heap.size):=by
  intro W hW;have hz:W0.heap.size=w.heap.size+1+1:=by rw[<-aW];simp
  have hc:=(bcell hW).1;have hf:=(bcell hW).2;have bG:Below w.heap.size w W0:=by rw[<-aW];exact Below.alloc (XP _ _) (by simp) _
  refine⟨⟨(hc _ _ (by omega)).trans ?_,(hc _ _ (by omega)).trans ?_,(hc _ _ (by omega)).trans ?_,(hc _ _ (by omega)).trans ?_⟩,⟨(hc _ _ (by omega)).trans ?_,(hc _ _ (by omega)).trans ?_,(hc _ _ (by omega)).trans ?_⟩,⟨(hf _ _ (by omega)).trans ?_,(hf _ _ (by omega)).trans ?_,(hf _ _ (by omega)).trans ?_⟩,bG.trans (hW.mono bG.size),by have:=hW.size;omega⟩
  all_goals (rw[<-aW];first|exact XZ _ _ _ _ _ _ rfl|exact Zc _ _ _ _ _ (by simp)|exact YY _ _ _ _ _ (by simp))
 rcases b1 with _|_
 ·clear C2 C3 C4;obtain⟨⟨m0,m1,m2,m3⟩,⟨c0,c1,c2⟩,⟨f0,f1,f2⟩,af,aD⟩:=KB.out W0 (QQ _ _);have au:=hid af;clear af;go_enter Tryz.func140,Tryz.ntmps140
  go_wp2_with fail
  refine(C1.out _ au.out).mono ?_;rintro e w1 ⟨rfl,aj⟩;clear m0 m1 m2 m3 c0 c1 c2 f0 f1 f2 aD;obtain⟨⟨m0,m1,m2,m3⟩,aF,⟨f0,f1,f2⟩,ae,aT⟩:=KB.out w1 aj;have ah:=hid aj;have ak:=hid ae;obtain⟨c0,c1,c2⟩:=aF;have aK:=hid (QS c0 (QS c1 c2));clear aj ae
  go_wp2_with fail
  generalize hW:((w1.setCell _ (.slice none 0 0)).setCell _ (.int .i64 0)).setCell _ (.int .i64 0)=W;obtain⟨⟨r0,r1,r2⟩,rz,rb,ro⟩:=three aK.out.1 aK.out.2.1 aK.out.2.2 _ _ _ hW.symm;have aH:=hid (rb w.heap.size w (by omega) ak.out);have _u:=trivial;clear hW ro rb;refine bodyPost_ret (v:=.tuple #[.agg #[(.slice none 0 0),(.int .i64 0),(.int .i64 0)],.int .i64 1]) (by simp[results,Tryz.results140,go_sem,r0,r1,r2]) rfl ?_;exact⟨aH.out,.inl ⟨rfl,rfl⟩⟩
 rcases b2 with _|_
 ·clear C3 C4;obtain⟨⟨m0,m1,m2,m3⟩,⟨c0,c1,c2⟩,⟨f0,f1,f2⟩,af,aD⟩:=KB.out W0 (QQ _ _);have au:=hid af;clear af;go_enter Tryz.func140,Tryz.ntmps140
  go_wp2_with fail
  refine(C1.out _ au.out).mono ?_;rintro e w1 ⟨rfl,aj⟩;clear m0 m1 m2 m3 c0 c1 c2 f0 f1 f2 aD;obtain⟨⟨m0,m1,m2,m3⟩,aF,⟨f0,f1,f2⟩,ae,aT⟩:=KB.out w1 aj;have ah:=hid aj;have ak:=hid ae;obtain⟨c0,c1,c2⟩:=aF;have aK:=hid (QS c0 (QS c1 c2));clear aj ae
  go_wp2_with fail
  refine(C2.out _ ak.out (by first|rfl|trivial)).mono ?_;rintro e w2 ⟨rfl,aC⟩;clear m0 m1 m2 m3 f0 f1 f2 c0 c1 c2;have ag:=hid (ah.out.trans (aC.mono ah.out.size));obtain⟨⟨m0,m1,m2,m3⟩,aL,⟨f0,f1,f2⟩,ai,bz⟩:=KB.out w2 ag.out;have az:=hid ai;obtain⟨c0,c1,c2⟩:=aL;have aO:=hid (QS c0 (QS c1 c2));clear aC ai
  go_wp2_with fail
  generalize hW:((w2.setCell _ (.slice none 0 0)).setCell _ (.int .i64 0)).setCell _ (.int .i64 0)=W;obtain⟨⟨r0,r1,r2⟩,rz,rb,ro⟩:=three aO.out.1 aO.out.2.1 aO.out.2.2 _ _ _ hW.symm;have aH:=hid (rb w.heap.size w (by omega) az.out);have _u:=trivial;clear hW ro rb;refine bodyPost_ret (v:=.tuple #[.agg #[(.slice none 0 0),(.int .i64 0),(.int .i64 0)],.int .i64 2]) (by simp[results,Tryz.results140,go_sem,r0,r1,r2]) rfl ?_;exact⟨aH.out,.inr (.inl ⟨rfl,rfl,rfl⟩)⟩
 rcases b3 with _|_
 ·clear C4;obtain⟨⟨m0,m1,m2,m3⟩,⟨c0,c1,c2⟩,⟨f0,f1,f2⟩,af,aD⟩:=KB.out W0 (QQ _ _);have au:=hid af;clear af;go_enter Tryz.func140,Tryz.ntmps140
  go_wp2_with fail
  refine(C1.out _ au.out).mono ?_;rintro e w1 ⟨rfl,aj⟩;clear m0 m1 m2 m3 c0 c1 c2 f0 f1 f2 aD;obtain⟨⟨m0,m1,m2,m3⟩,aF,⟨f0,f1,f2⟩,ae,aT⟩:=KB.out w1 aj;have ah:=hid aj;have ak:=hid ae;obtain⟨c0,c1,c2⟩:=aF;have aK:=hid (QS c0 (QS c1 c2));clear aj ae
  go_wp2_with fail
  refine(C2.out _ ak.out (by first|rfl|trivial)).mono ?_;rintro e w2 ⟨rfl,aC⟩;clear m0 m1 m2 m3 f0 f1 f2 c0 c1 c2;have ag:=hid (ah.out.trans (aC.mono ah.out.size));obtain⟨⟨m0,m1,m2,m3⟩,aL,⟨f0,f1,f2⟩,ai,bz⟩:=KB.out w2 ag.out;have az:=hid ai;obtain⟨c0,c1,c2⟩:=aL;have aO:=hid (QS c0 (QS c1 c2));clear aC ai
  go_wp2_with fail
  refine(C3.out _ az.out (by first|rfl|trivial)).mono ?_;rintro e w3 ⟨rfl,aN⟩;clear m0 m1 m2 m3 f0 f1 f2 c0 c1 c2;have aA:=hid (ag.out.trans (aN.mono ag.out.size));obtain⟨⟨m0,m1,m2,m3⟩,aU,⟨f0,f1,f2⟩,ax,bP⟩:=KB.out w3 aA.out;have ay:=hid ax;obtain⟨c0,c1,c2⟩:=aU;have aR:=hid (QS c0 (QS c1 c2));clear aN ax
  go_wp2_with fail
  generalize hW:((w3.setCell _ (.slice none 0 0)).setCell _ (.int .i64 0)).setCell _ (.int .i64 0)=W;obtain⟨⟨r0,r1,r2⟩,rz,rb,ro⟩:=three aR.out.1 aR.out.2.1 aR.out.2.2 _ _ _ hW.symm;have aH:=hid (rb w.heap.size w (by omega) ay.out);have _u:=trivial;clear hW ro rb;refine bodyPost_ret (v:=.tuple #[.agg #[(.slice none 0 0),(.int .i64 0),(.int .i64 0)],.int .i64 2]) (by simp[results,Tryz.results140,go_sem,r0,r1,r2]) rfl ?_;exact⟨aH.out,.inr (.inl ⟨rfl,rfl,rfl⟩)⟩
 skip
 obtain⟨⟨m0,m1,m2,m3⟩,⟨c0,c1,c2⟩,⟨f0,f1,f2⟩,af,aD⟩:=KB.out W0 (QQ _ _);have au:=hid af;clear af;go_enter Tryz.func140,Tryz.ntmps140
 go_wp2_with fail
 refine(C1.out _ au.out).mono ?_;rintro e w1 ⟨rfl,aj⟩;clear m0 m1 m2 m3 c0 c1 c2 f0 f1 f2 aD;obtain⟨⟨m0,m1,m2,m3⟩,aF,⟨f0,f1,f2⟩,ae,aT⟩:=KB.out w1 aj;have ah:=hid aj;have ak:=hid ae;obtain⟨c0,c1,c2⟩:=aF;have aK:=hid (QS c0 (QS c1 c2));clear aj ae
 go_wp2_with fail
 refine(C2.out _ ak.out (by first|rfl|trivial)).mono ?_;rintro e w2 ⟨rfl,aC⟩;clear m0 m1 m2 m3 f0 f1 f2 c0 c1 c2;have ag:=hid (ah.out.trans (aC.mono ah.out.size));obtain⟨⟨m0,m1,m2,m3⟩,aL,⟨f0,f1,f2⟩,ai,bz⟩:=KB.out w2 ag.out;have az:=hid ai;obtain⟨c0,c1,c2⟩:=aL;have aO:=hid (QS c0 (QS c1 c2));clear aC ai
 go_wp2_with fail
 refine(C3.out _ az.out (by first|rfl|trivial)).mono ?_;rintro e w3 ⟨rfl,aN⟩;clear m0 m1 m2 m3 f0 f1 f2 c0 c1 c2;have aA:=hid (ag.out.trans (aN.mono ag.out.size));obtain⟨⟨m0,m1,m2,m3⟩,aU,⟨f0,f1,f2⟩,ax,bP⟩:=KB.out w3 aA.out;have ay:=hid ax;obtain⟨c0,c1,c2⟩:=aU;have aR:=hid (QS c0 (QS c1 c2));clear aN ax;obtain⟨⟨h0,h1⟩,⟨bU,bR⟩,bB,bA⟩:=C4.out (by first|rfl|trivial) (by first|rfl|trivial) (by first|rfl|trivial);have bJ:=hid bB;have bI:=hid bA;obtain⟨aJ,aI⟩:=zNe a b h0 h1;have aS:=hid (HA.out w3 ay.out);have bu:=hid (HB.out w3 ay.out);clear bB bA C1 C2 C3 C4 HA HB
 go_wp2_with fail
 go_loopw [8] (fun i wr=>(∃n,wr=w3.drewN n)/\∃k:Nat,k<a.length/\k<b.length/\i=.int .i64 k/\ZE (a.drop k) (b.drop k)+k=ZE a b) (fun i _=>a.length-(intOf i).toNat)
 case atStart=>exact⟨⟨0,rfl⟩,0,h0,h1,rfl,rfl⟩
 obtain⟨⟨n,rfl⟩,k,aJ,aI,rfl,aB⟩:=hrel;have HR:=hid aB;obtain⟨ga,oa,rfl,hga,bi,bW,_⟩:=zKn aS.out aJ;obtain⟨gb,ob,rfl,hgb,bg,hcb,_⟩:=zKn bu.out aI;have qa:=bi w3 (QQ _ _) k aJ;have qb:=bg w3 (QQ _ _) k aI;have aZ:Hid (∀h:k+1<a.length,w3.cell? ⟨ga,oa+(k+1),none⟩=some (.int .i64 a[k+1])):=fun h=>bi w3 (QQ _ _) (k+1) h
 have aY:Hid (∀h:k+1<b.length,w3.cell? ⟨gb,ob+(k+1),none⟩=some (.int .i64 b[k+1])):=fun h=>bg w3 (QQ _ _) (k+1) h
 have ia:(k:Int)<(a.length:Int):=by omega
 have ib:(k:Int)<(b.length:Int):=by omega
 have wd:IntKind.i64.wrap ((k:Int)+2)=(k:Int)+2:=IntWalk.i64_in _ (by omega);have we:IntKind.i64.wrap ((k:Int)+1)=(k:Int)+1:=IntWalk.i64_in _ (by omega);have wn:((k:Int)+1).toNat=k+1:=by omega
 have wp:(0:Int)<=(k:Int)+1:=by omega
 clear aB bi bg;by_cases aG:(k+2<a.length/\k+2<b.length)/\∀(p:k+1<a.length) (q:k+1<b.length),a[k]=b[k]/\a[k+1]=b[k+1]
 ·obtain⟨⟨l1,l2⟩,bD⟩:=aG;have hq:=bD (by omega) (by omega);have p1:=aZ.out (Nat.lt_of_succ_lt l1);have p2:=aY.out (Nat.lt_of_succ_lt l2);have i1:(k:Int)+2<(a.length:Int):=by omega
  have i2:(k:Int)+2<(b.length:Int):=by omega
  have i3:(k:Int)+1<(a.length:Int):=by omega
  have i4:(k:Int)+1<(b.length:Int):=by omega
  have d1:decide ((k:Int)+2<(a.length:Int))=true:=decide_eq_true i1;have d2:decide ((k:Int)+2<(b.length:Int))=true:=decide_eq_true i2;have HN:Hid (ZE (a.drop (k+2)) (b.drop (k+2))+(k+2)=ZE a b):=by show _=_;rw[<-HR.out,zL6 l1 l2 hq.1 hq.2];omega
  have e1:(a[k]==b[k])=true:=by simpa using hq.1
  have e2:(a[k+1]'(Nat.lt_of_succ_lt l1)==b[k+1]'(Nat.lt_of_succ_lt l2))=true:=by simpa using hq.2
  clear hq bD
  go_wp2_with fail
  go_quiet (fail)
  clear wd we
  go_wp2_with fail
  go_roundw
  case rel=>exact⟨by first|exact⟨_,rfl⟩|(simp only[World.drewN_drewN];exact⟨_,rfl⟩),k+2,by omega,by omega,by go_num,HN.out⟩
  case measure=>simp[intOf];omega
 have bK:Hid (ZE a b=k):=by
  show _=_;rw[<-HR.out];by_cases aa:k+2<a.length/\k+2<b.length
  ·rw[zL7 aa.1 aa.2 (fun h=>aG ⟨aa,fun _ _=>h⟩)];omega
  rw[zL5 aa];omega
 go_upto_region 6 with fail
 go_cut [63] (fun s wx=>s=.bool false/\∃n,wx=w3.drewN n)
 case first =>
  by_cases aa:k+2<a.length/\k+2<b.length
  ·obtain⟨l1,l2⟩:=aa;have p1:=aZ.out (Nat.lt_of_succ_lt l1);have p2:=aY.out (Nat.lt_of_succ_lt l2);have i1:(k:Int)+2<(a.length:Int):=by omega
   have i2:(k:Int)+2<(b.length:Int):=by omega
   have i3:(k:Int)+1<(a.length:Int):=by omega
   have i4:(k:Int)+1<(b.length:Int):=by omega
   have d1:decide ((k:Int)+2<(a.length:Int))=true:=decide_eq_true i1;have d2:decide ((k:Int)+2<(b.length:Int))=true:=decide_eq_true i2;by_cases hq:a[k]=b[k]
   ·have e1:(a[k]==b[k])=true:=by simpa using hq
    have e2:(a[k+1]'(Nat.lt_of_succ_lt l1)==b[k+1]'(Nat.lt_of_succ_lt l2))=false:=by rw[beq_eq_false_iff_ne];exact fun h=>aG ⟨⟨l1,l2⟩,fun _ _=>⟨hq,h⟩⟩
    clear hq aG
    go_quiet (fail)
    clear wd we
    go_wp2_with fail
    go_meet;exact⟨rfl,by first|exact⟨_,rfl⟩|(simp only[World.drewN_drewN];exact⟨_,rfl⟩)⟩
   have e1:(a[k]==b[k])=false:=by simpa using hq
   clear hq aG
   go_quiet (fail)
   clear wd we
   go_wp2_with fail
   go_meet;exact⟨rfl,by first|exact⟨_,rfl⟩|(simp only[World.drewN_drewN];exact⟨_,rfl⟩)⟩
  have bY:¬((k:Int)+2<(a.length:Int))\/((k:Int)+2<(a.length:Int)/\¬((k:Int)+2<(b.length:Int))):=by omega
  clear aG aa;rcases bY with e1|⟨e1,e2⟩
  ·have d1:decide ((k:Int)+2<(a.length:Int))=false:=decide_eq_false e1
   go_quiet (fail)
   go_wp2_with fail
   go_meet;exact⟨rfl,by first|exact⟨_,rfl⟩|(simp only[World.drewN_drewN];exact⟨_,rfl⟩)⟩
  have d1:decide ((k:Int)+2<(a.length:Int))=true:=decide_eq_true e1;have d2:decide ((k:Int)+2<(b.length:Int))=false:=decide_eq_false e2
  go_quiet (fail)
  go_wp2_with fail
  go_meet;exact⟨rfl,by first|exact⟨_,rfl⟩|(simp only[World.drewN_drewN];exact⟨_,rfl⟩)⟩
 obtain⟨rfl,m,rfl⟩:=hcut;have dm:Hid (∀q,Calls Tryz.prog 159 #[.slice (some ⟨ga,oa,none⟩) a.length ca,.int .i64 k] (w3.drewN q) fun e w'=>e=.returned (.tuple #[.int .i64 a[k],.int .i64 (Zj (a.drop k))])/\∃n,w'=(w3.drewN q).drewN n) :=
  fun q=>Vm a k _ (w3.drewN q) (Lt w3.heap.size) (aS.out.keep (fun _ _=>rfl) (fun _ h=>h)) aJ bU (bJ.out _ (List.getElem_mem aJ))
 have dh:Hid (∀q,Calls Tryz.prog 159 #[.slice (some ⟨gb,ob,none⟩) b.length cb,.int .i64 k] (w3.drewN q) fun e w'=>e=.returned (.tuple #[.int .i64 b[k],.int .i64 (Zj (b.drop k))])/\∃n,w'=(w3.drewN q).drewN n) :=
  fun q=>Vm b k _ (w3.drewN q) (Lt w3.heap.size) (bu.out.keep (fun _ _=>rfl) (fun _ h=>h)) aI bR (bI.out _ (List.getElem_mem aI))
 obtain⟨A3,hsl,hcut⟩:=UJ ZF Tryz.underlying25 XA (some ⟨ga,oa,none⟩) a.length ca (k:Int) k rfl (by omega) bW;have cK:Hid (∀q,Z0 ((w3.alloc (.cells #[] 3)).drewN q) (Lt ((w3.alloc (.cells #[] 3)).drewN q).heap.size) (a.take k) (.slice A3 k ca)):=fun q=>hcut _ _ _ (aS.out.below (U7 (WU (QQ _ _) _)) (by simp))
 have cZ:Hid ((a.take k).length=k):=by show _=_;simp;omega
 have bM:Hid (a.getD k 0=a[k]):=by show _=_;rw[List.getD_eq_getElem?_getD,List.getElem?_eq_getElem aJ];rfl
 have bL:Hid (b.getD k 0=b[k]):=by show _=_;rw[List.getD_eq_getElem?_getD,List.getElem?_eq_getElem aI];rfl
 have aP:Hid (r=(a.take k,min a[k] b[k],max (Zj (a.drop k)) (Zj (b.drop k)))):=by show _=_;rw[bN.out,bK.out,bM.out,bL.out]
 have hkl:k<=1000000:=by omega
 have hkk:(k:Int)<=(ca:Int):=by omega
 clear hcut aG wd we wn wp qa qb aZ aY aS bu bJ bI bM bL bK HR bN;generalize a[k]=xa at *;generalize b[k]=xb at *;generalize Zj (a.drop k)=ea at *;generalize Zj (b.drop k)=eb at *
 go_wp2_with fail
 refine(dm.out _).mono ?_;rintro e w4 ⟨rfl,n4,rfl⟩;simp only[World.drewN_drewN]
 go_wp2_with fail
 refine(dh.out _).mono ?_;rintro e w5 ⟨rfl,n5,rfl⟩;simp only[World.drewN_drewN]
 go_wp2_with (at_builtin;refine YN rfl (.tmp 78) (.tmp 81) rfl w3.heap.size _ [] (a.take k) rfl (Ur (Ta w3)) _ _ _ _ rfl (cK.out _) (by simp;omega) (by simp) ?_;intro v6 w6 av bH _;simp only[List.nil_append] at av;obtain⟨A6,c6,bC⟩:=(av.ints (S:=fun _=>True) (fun _ _ _=>trivial)).form;rw[cZ.out] at bC;subst bC;have cO:=hid av;have dn:=hid ((U7 (WU (QQ w3.heap.size w3) _)).trans bH);obtain⟨_,bQ,⟨f0',f1',f2'⟩,aM,hz6⟩:=KB.out w6 (aA.out.trans (dn.out.mono aA.out.size));have bn:=hid aM;obtain⟨cB,cu,bZ⟩:=bQ;have aX:=hid (QS cB (QS cu bZ));clear av bH aM)
 generalize hW:((w6.setCell _ (.slice A6 k c6)).setCell _ (.int .i64 (min xa xb))).setCell _ (.int .i64 (max ea eb))=W;obtain⟨⟨r0,r1,r2⟩,rz,rb,ro⟩:=three aX.out.1 aX.out.2.1 aX.out.2.2 _ _ _ hW.symm;have aH:=hid (rb w.heap.size w (by omega) bn.out);have df:Hid (Z0 W (fun k=>w.heap.size<=k/\k<W.heap.size) (a.take k) (.slice A6 k c6)):=(cO.out.ints (S:=fun j=>w3.heap.size<=j/\j<w6.heap.size) (fun j h1 h2=>⟨h1,h2⟩)).keep (fun p hp=>ro p (by have:=hp.1;omega)) (fun j hj=>by have:=hj.1;have:=hj.2;have:=ay.out.size;exact⟨by omega,by omega⟩);clear hW ro rb;refine bodyPost_ret (v:=.tuple #[.agg #[.slice A6 k c6,.int .i64 (min xa xb),.int .i64 (max ea eb)],.int .i64 0]) (by simp[results,Tryz.results140,go_sem,r0,r1,r2]) rfl ?_;exact⟨aH.out,.inr (.inr ⟨rfl,rfl,rfl,.slice A6 k c6,by rw[aP.out],by rw[aP.out];exact df.out⟩)⟩
end Go.Proofs.YthpngeboknmllaaGreat
namespace Go.Proofs.YthpngeboknmllaaGreat
open Go Go.RowKit Go.Shelf
attribute [local go_sem] Oper.semAt_some
attribute [local go_sem] Oper.semAt_some
attribute [local go_sem] Oper.semAt_some
attribute [local go_sem] Oper.semAt_some
attribute [local go_sem] Oper.semAt_some
end Go.Proofs.YthpngeboknmllaaGreat
namespace Go.Proofs.YthpngeboknmllaaGreat
open Go.RowKit
def SlB (w:World) (g:Nat):Prop:=∀j u,w.cell? ⟨g,j,none⟩=some u->∃A n c,u=.slice A n c
theorem zHe {w:World} {S:Nat->Prop} {g:Nat} {A:Option Addr} {cs:List Value} (h:SlB w g) (hr:Zl w S A cs) (h0:∀u,cs[0]?=some u->∀B n c,u≠.slice B n c):Zl w (fun k=>S k/\k≠g) A cs:=by
 intro hl;obtain⟨g',o,e,hg,hc⟩:=hr hl;refine⟨g',o,e,⟨hg,?_⟩,hc⟩;rintro rfl;have hu:cs[0]?=some cs[0]:=List.getElem?_eq_getElem hl;obtain⟨B,n,c,e9⟩:=h _ _ (hc 0 _ hu);exact h0 _ hu B n c e9
theorem zM1 {w:World} {S:Nat->Prop} {g:Nat} {xs:List Int} {v:Value} (h:SlB w g) (hr:Z0 w S xs v):Z0 w (fun k=>S k/\k≠g) xs v:=by
 obtain⟨A,cap,cs,rfl,h1,h2,h3,h4⟩:=hr;obtain⟨e,h5⟩:=VD.1 h4;refine⟨A,cap,cs,rfl,h1,h2,zHe h h3 (fun u hu B n c=>?_),VD.2 ⟨e,h5⟩⟩;subst e;rw[List.getElem?_map] at hu;rcases hx:xs[0]? with _|x
 ·rw[hx] at hu;cases hu
 rw[hx] at hu;cases hu;intro e;cases e
mutual
theorem treeR_av {w:World} {S:Nat->Prop} {g:Nat} (hg:SlB w g):(t:Z9)->(cs:List Value)->XU w S t cs->XU w (fun k=>S k/\k≠g) t cs
 |
  .mk k s c ts,cs,h=>by
  unfold XU at h ⊢
  obtain⟨A,cap,rs,h1,h2,h3,h4,h5,h6,h7,h8⟩:=h
  refine⟨A,cap,rs,h1,h2,h3,h4,h5,h6,zHe hg h7 (fun u hu B n c=>?_),zHo hg ts rs h8⟩
  cases ts with
  |nil=>unfold Xi at h8;subst h8;cases hu
  |
   cons t ts =>
   unfold Xi at h8
   obtain⟨a,r,rfl,h9,_⟩:=h8
   obtain⟨k',s',c',ts'⟩:=t
   unfold XU at h9
   obtain⟨_,_,_,rfl,_⟩:=h9
   cases hu;intro e;cases e
theorem zHo {w:World} {S:Nat->Prop} {g:Nat} (hg:SlB w g):(ts:List Z9)->(cs:List Value)->Xi w S ts cs->Xi w (fun k=>S k/\k≠g) ts cs
 |[],cs,h=>by unfold Xi at h ⊢;exact h
 |
  t::ts,cs,h=>by
  unfold Xi at h ⊢
  obtain⟨a,r,h1,h2,h3⟩:=h
  exact⟨a,r,h1,treeR_av hg t a h2,zHo hg ts r h3⟩
end
theorem trees_av {w:World} {S:Nat->Prop} {g:Nat} {xs:List Z9} {v:Value} (h:SlB w g) (hr:Z8 Z7 w S xs v):Z8 Z7 w (fun k=>S k/\k≠g) xs v:=by
 obtain⟨A,cap,cs,rfl,h1,h2,h3,h4⟩:=hr;refine⟨A,cap,cs,rfl,h1,h2,zHe h h3 (fun u hu B n c=>?_),RO.1 (zHo h _ _ (RO.2 h4))⟩;cases xs with
 |nil=>cases h4;cases hu
 |
  cons t ts =>
  obtain⟨a,r,rfl,h9,_⟩:=h4;obtain⟨v,rfl,_⟩:=YI.1 h9;cases hu;intro e;cases e
theorem zHz {w:World} {S:Nat->Prop} {g:Nat} (hg:SlB w g):(xs:List ZB)->(cs:List Value)->ZK Zb w S xs cs->ZK Zb w (fun k=>S k/\k≠g) xs cs
 |[],cs,h=>h
 |
  x::xs,cs,h=>by
  obtain⟨a,r,h1,⟨vr,vn,rfl,h2,h3,h4,h5,h6,h7,h8,h9⟩,aa⟩:=h;exact⟨_,r,h1,⟨vr,vn,rfl,h2,h3,h4,h5,h6,h7,zM1 hg h8,trees_av hg h9⟩,zHz hg xs r aa⟩
theorem ops_av {w:World} {S:Nat->Prop} {g:Nat} {xs:List ZB} {v:Value} (h:SlB w g) (hr:Z8 Zb w S xs v):Z8 Zb w (fun k=>S k/\k≠g) xs v:=by
 obtain⟨A,cap,cs,rfl,h1,h2,h3,h4⟩:=hr;refine⟨A,cap,cs,rfl,h1,h2,zHe h h3 (fun u hu B n c=>?_),zHz h _ _ h4⟩;cases xs with
 |nil=>cases h4;cases hu
 |
  cons t ts =>
  obtain⟨a,r,rfl,⟨vr,vn,rfl,_⟩,_⟩:=h4;cases hu;intro e;cases e
theorem RF {W:World} {g:Nat} {T:TypeId} {A B C D E:Option Addr} {a b c d e a' b' c' d' e':Nat} (h:Z5 W g (.cells #[.slice A a a',.slice B b b',.slice C c c',.slice D d d',.slice E e e'] T)):SlB W g:=by
 intro j u hu;rw[h.cell j] at hu;rcases j with _|_|_|_|_|j
 ·cases hu;exact⟨_,_,_,rfl⟩
 ·cases hu;exact⟨_,_,_,rfl⟩
 ·cases hu;exact⟨_,_,_,rfl⟩
 ·cases hu;exact⟨_,_,_,rfl⟩
 ·cases hu;exact⟨_,_,_,rfl⟩
 simp at hu
end Go.Proofs.YthpngeboknmllaaGreat
namespace Go.Proofs.YthpngeboknmllaaGreat
open Go.RowKit Go.ChangeShapes Go.WideShapes Go.ChangeAt
section
variable {H:Type} {enc:TypeId×Value->H} {w:World} {base:Nat} {spare:Nat->Bool} {held:Bool}
theorem zKz {a:Addr} {u:Value} (h:w.cell? a=some u):a=⟨a.block,a.off,none⟩/\a.block<w.heap.size:=by
 have aa:=World.block_lt_of_cell? w a h;refine⟨?_,aa⟩;obtain⟨b,o,sp⟩:=a;cases sp with
 |none=>rfl
 |
  some s =>
  exfalso;unfold World.cell? at h;split at h
  ·simp at h
  cases h
theorem VT {a:Addr} {rs:List Value} (h:∀j u,rs[j]?=some u->w.cell? (a.add j)=some u):Zl w (Lt w.heap.size) (some a) rs:=by
 intro h0;have h1:=h 0 _ (List.getElem?_eq_getElem h0);have e:a.add 0=a:=by unfold Addr.add;simp
 rw[e] at h1;obtain⟨h2,h3⟩:=zKz h1;refine⟨a.block,a.off,by rw[<-h2],h3,fun j u hu=>?_⟩;have:=h j u hu;rw[h2] at this;unfold Addr.add at this;split at this
 ·subst j;simpa using this
 exact this
theorem zI8 {α:Type} (E:YW α) {t e:TypeId} (ht:Tryz.prog.underlying t=some (.slice e)) (hc:Tryz.prog.cellsOf e=E.size) {fuel:Nat} {cs:List Value} {x:DataW H×List MemPlace}
  (hE:∀m,m<fuel->∀cs x,DataW.trod enc Tryz.prog w base spare held m e cs=some x->∃a,E.R w (Lt w.heap.size) a cs)
  (h:DataW.trod enc Tryz.prog w base spare held fuel t cs=some x):∃xs v,cs=[v]/\Z8 E w (Lt w.heap.size) xs v:=by
 rcases DataW.trod_slice ht h with ⟨rfl,_⟩|⟨a,len,cap,ae,rest,n,hf,rfl,_,_,hl,hm,ah,aa,_,_⟩
 ·exact⟨[],_,rfl,Z8.nil_ 0 (by simp) none⟩
 rw[hc] at aa;have af:∀k,k<=len->∃(xs:List α) (rs:List Value),xs.length=k/\ZK E w (Lt w.heap.size) xs rs/\∀j u,rs[j]?=some u->w.cell? (a.add j)=some u:=by
  intro k;induction k with
  |zero=>intro _;exact⟨[],[],rfl,rfl,by simp⟩
  |
   succ k ih =>
   intro hk;obtain⟨xs,rs,h1,h2,h3⟩:=ih (by omega);have h4:=aa k (by omega);rw[List.getElem?_eq_getElem (by omega)] at h4;obtain⟨cs',h5,h6⟩:=Option.bind_eq_some_iff.1 h4;obtain⟨y,hy⟩:=hE n (by omega) _ _ h6;obtain⟨_,h7,h8⟩:=World.cells?_some h5;refine⟨xs++[y],rs++cs',by simp[h1],h2.append (ZK.single hy),fun j u hu=>?_⟩;have ag:=h2.len;rw[h1] at ag;by_cases hj:j<rs.length
   ·rw[List.getElem?_append_left hj] at hu;exact h3 j u hu
   rw[List.getElem?_append_right (by omega)] at hu;have ai:j-rs.length<E.size:=by rw[<-h7];exact(List.getElem?_eq_some_iff.1 hu).1
   have:=h8 (j-rs.length) ai;rw[zPb,show k*E.size+(j-rs.length)=j by omega] at this;rw[this,hu]
 obtain⟨xs,rs,h1,h2,h3⟩:=af len (QT _);subst h1;exact⟨xs,_,rfl,some a,cap,rs,rfl,hl,hm,VT h3,h2⟩
theorem zIo:Tryz.prog.cellsOf 3=1:=by kernel_rfl
theorem zQq:Tryz.prog.cellsOf 9=1:=by kernel_rfl
theorem zJw:Tryz.prog.cellsOf 25=1:=by kernel_rfl
theorem zNg:Tryz.prog.cellsOf 22=1:=by kernel_rfl
theorem zJv:Tryz.prog.cellsOf 24=4:=by kernel_rfl
theorem zJ9 {fuel:Nat} {cs:List Value} {x:DataW H×List MemPlace} (h:DataW.trod enc Tryz.prog w base spare held fuel 3 cs=some x):∃n,cs=[.int .i64 n]/\Z4 n:=by
 obtain⟨n,rfl,_,hw⟩:=DataW.trod_int Tryz.underlying3 h;exact⟨n,rfl,bounds_i64 hw⟩
theorem zT5 {fuel:Nat} {cs:List Value} {x:DataW H×List MemPlace} (h:DataW.trod enc Tryz.prog w base spare held fuel 9 cs=some x):∃s:ByteArray,cs=[.string s]/\s.size<=maxLen:=by
 obtain⟨s,rfl,_,hw⟩:=DataW.trod_string Tryz.underlying9 h;exact⟨s,rfl,hw⟩
theorem zK9 {fuel:Nat} {cs:List Value} {x:DataW H×List MemPlace} (h:DataW.trod enc Tryz.prog w base spare held fuel 25 cs=some x):∃xs v,cs=[v]/\Z0 w (Lt w.heap.size) xs v :=
 zI8 ZF Tryz.underlying25 zIo (fun m _ cs x h=>by obtain⟨n,h1,h2⟩:=zJ9 h;exact⟨n,h1,h2⟩) h
theorem Sm {α:Type} {l:List α} {i:Nat} {o:Option α} (h:o=l[i]?) (hi:i<l.length):∃x,o=some x:=⟨l[i],by rw[h,List.getElem?_eq_getElem hi]⟩
theorem zPs (aa:Nat):∀(cs:List Value) (x:DataW H×List MemPlace),DataW.trod enc Tryz.prog w base spare held aa 24 cs=some x->∃t,XU w (Lt w.heap.size) t cs:=by
 induction aa using Nat.strongRecOn with
 |ind aa ih =>
 intro cs x h;obtain⟨xs,n,hfu,hx,ae,ag,hf⟩:=DataW.trod_struct Tryz.underlying24 h;rw[zJv] at ae
 match cs,ae with
 |
  [c0,c1,c2,c3],_ =>
  have g0:DataW.trod enc Tryz.prog w base spare held n 3 (([c0,c1,c2,c3].drop 0).take (Tryz.prog.cellsOf 3))=xs[0]?:=hf 0 _ rfl;rw[zIo] at g0;have f0:DataW.trod enc Tryz.prog w base spare held n 3 [c0]=xs[0]?:=g0;have g1:DataW.trod enc Tryz.prog w base spare held n 9 (([c0,c1,c2,c3].drop 1).take (Tryz.prog.cellsOf 9))=xs[1]?:=hf 1 _ rfl;rw[zQq] at g1;have f1:DataW.trod enc Tryz.prog w base spare held n 9 [c1]=xs[1]?:=g1;have g2:DataW.trod enc Tryz.prog w base spare held n 3 (([c0,c1,c2,c3].drop 2).take (Tryz.prog.cellsOf 3))=xs[2]?:=hf 2 _ rfl;rw[zIo] at g2;have f2:DataW.trod enc Tryz.prog w base spare held n 3 [c2]=xs[2]?:=g2;have g3:DataW.trod enc Tryz.prog w base spare held n 22 (([c0,c1,c2,c3].drop 3).take (Tryz.prog.cellsOf 22))=xs[3]?:=hf 3 _ rfl;rw[zNg] at g3;have f3:DataW.trod enc Tryz.prog w base spare held n 22 [c3]=xs[3]?:=g3;have af:xs.length=4:=ag;obtain⟨y0,e0⟩:=Sm f0 (by omega);obtain⟨y1,e1⟩:=Sm f1 (by omega);obtain⟨y2,e2⟩:=Sm f2 (by omega);obtain⟨y3,e3⟩:=Sm f3 (by omega);obtain⟨k,q0,hk⟩:=zJ9 e0;obtain⟨s,q1,hs⟩:=zT5 e1;obtain⟨c,q2,hc⟩:=zJ9 e2;obtain⟨ts,v,q3,hts⟩:=zI8 Z7 Tryz.underlying22 zJv (fun m hm cs x h=>ih m (by omega) cs x h) e3;simp only[List.cons.injEq,and_true] at q0 q1 q2 q3;subst q0 q1 q2 q3;exact⟨.mk k s c ts,YI.2 ⟨_,rfl,hk,hc,hs,hts⟩⟩
theorem VB {f:Func} {s:ChangeSpec} {W W':World} {args:Array Value} {ds gs:List (DataW H)} {before:List MemPlace}
  (ag:s.vars=[]) (aj:f.resultTypes=#[4]) (ae:s.fn H ds={ results:=[.lit (.bool true)],args:=ds })
  (hl:laidOutB Tryz.prog=true) (hr:∀t∈f.params.toList,Tryz.prog.readableRec t=true/\t<Tryz.prog.types.size)
  (hW:DataW.Whole enc Tryz.prog f.params.toList s.vars false W args.toList ds gs before) (hb:Below W.heap.size W W') :
  s.post enc Tryz.prog f false true false false W args (.bool true) W':=by
 have az:∀p∈before,p.block<W.heap.size:=fun p hp=>hW.lt p hp
 have ak:∀p∈before,(fun b=>decide (b<W.heap.size)) p.block=true:=fun p hp=>by simpa using az p hp
 have aF:=hW;obtain⟨p,q,hA,hV,rfl,hz,hn⟩:=hW;rw[ag] at hV;obtain⟨rfl,rfl⟩:=trodVars_none hV;have av:∀(ts:List TypeId) (vs:List Value) (ds:List (DataW H)) (ps:List MemPlace),(∀t∈ts,Tryz.prog.readableRec t=true/\t<Tryz.prog.types.size)->(∀x∈ps,x∈p++[])->DataW.TrodAll enc Tryz.prog W 0 (fun _=>true) true ts vs ds ps ->
   ∀sp:Nat->Bool,(∀x∈p++[],sp x.block=true)->DataW.TrodAll enc Tryz.prog W' 0 sp true ts vs ds ps:=by
  intro ts;induction ts with
  |
   nil =>
   intro vs ds ps _ _ h sp _;cases vs<;>cases ds<;>simp[DataW.TrodAll] at h;subst h;exact trodAll_mk0
  |
   cons t ts ih =>
   intro vs ds ps ay ai h sp ax;obtain⟨v,aB,d,aG,p',q',rfl,rfl,rfl,h1,h2⟩:=trodAll_cons h;refine⟨p',q',?_,ih aB aG q' (fun t' aC=>ay t' (by simp[aC])) (fun x hx=>ai x (by simp[hx])) h2 sp ax,rfl⟩;exact WideElems.Trod_stays hl (ay t (by simp)).1 (ay t (by simp)).2 h1 (fun x hx=>hb.same (az x (ai x (by simp[hx])))) (fun x hx=>ax x (ai x (by simp[hx])))
 have au:=av f.params.toList args.toList ds p hr (fun x hx=>by simpa using hx) hA;have ah:∀(b:Nat) (sp:Nat->Bool) (hd:Bool),DataW.TrodAll enc Tryz.prog W' b sp hd f.resultTypes.toList ((Value.bool true).resultList f.resultTypes.size) (s.fn H (ds++[])).results []:=by
  intro b sp hd;rw[List.append_nil,ae,aj];exact⟨[],[],shut_bool Tryz.underlying4 true,trodAll_mk0,rfl⟩
 have aD:∀(j:Nat) (t:TypeId) (r:Value),f.resultTypes[j]?=some t->((Value.bool true).resultList f.resultTypes.size)[j]?=some r->Value.okWide Tryz.prog W' .any 0 t r :=
  ok_one aj rfl (okWide_bool_mk Tryz.underlying4 _)
 have af:∀sp:Nat->Bool,(∀x∈p++[],sp x.block=true)->DataW.TrodAll enc Tryz.prog W' 0 sp true f.params.toList args.toList (s.fn H (ds++[])).args p:=by
  intro sp ax;rw[List.append_nil,ae];exact au sp ax
 have aa:∀sp:Nat->Bool,(∀x∈p++[],sp x.block=true)->DataW.TrodVars enc Tryz.prog W' sp s.vars (s.fn H (ds++[])).vars []:=by
  intro sp _;rw[List.append_nil,ae,ag];rfl
 refine⟨ds,[],p++[],[],p,[],aF,ah _ _ _,af _ ak,aa _ ak,World.keptBut_mono (fun x hx=>⟨hx,by simpa using hx⟩) (hb.frame (·∈p++[])),fun _=>?_⟩;refine⟨aD,_,_,([]++p)++[],⟨[]++p,[],trodAll_append (af _ (fun _ _=>rfl)) (ah _ _ _),aa _ (fun _ _=>rfl),rfl,?_,?_⟩,?_⟩
 ·intro b aA hp;have ai:MemPlace.cell b aA∈p++[]:=by simpa using hp
  rw[hb.frozen (az _ ai)];exact hz b aA ai
 ·intro ha;cases ha
 intro x hx _;simpa using hx
end
