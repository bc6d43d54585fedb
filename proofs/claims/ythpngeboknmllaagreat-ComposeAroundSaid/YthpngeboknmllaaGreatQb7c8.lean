/- T -/
import Derived.Test.YthpngeboknmllaaGreatQ8f5d
import Derived.Test.YthpngeboknmllaaGreatQ878d
set_option linter.unusedVariables false
set_option linter.unusedSimpArgs false
set_option maxHeartbeats 4000000
set_option maxRecDepth 100000
namespace Go.Proofs.YthpngeboknmllaaGreat
open Go.RowKit
theorem zIk (ts:List Z9):ts.length<=ZT ts:=by
 induction ts with
 |nil=>simp
 |cons u us ih=>rw[ZT,XG,List.length_cons];omega
def zMh (w:World) (ts:List Z9) (e:Ending) (w':World):Prop:=∃v,e=.returned v/\Xb w' w.heap.size ts v/\Below w.heap.size w w'
theorem zGe (ts:List Z9) (v:Value) (w:World) (hv:Z8 Z7 w (Lt w.heap.size) ts v) (hc:ZT ts<=1000000) :
  Calls Tryz.prog 114 #[v] w (zMh w ts):=by
 have HV:=hid hv;have HC:=hid hc;obtain⟨A,cap,rs,rfl,ai,ae,ak,ax⟩:=hv;have aG:ts.length<=9223372036854775807:=by unfold maxLen at ae;omega
 have H:Hid (Zl w (Lt w.heap.size) A rs/\ZK Z7 w (Lt w.heap.size) ts rs):=⟨ak,ax⟩;clear ak ax hc ai ae;go_enter Tryz.func114,Tryz.ntmps114
 go_wp2_with fail
 go_loopw [3,7] (fun r i wr=>Below w.heap.size w wr/\∃k:Nat,k<=ts.length/\i=.int .i64 k/\Xb wr w.heap.size (ts.take k) r) (fun _ i _=>ts.length-(intOf i).toNat)
 case atStart=>exact⟨QQ _ _,0,QU _,rfl,Xb.nil _ _⟩
 obtain⟨hb,k,hk,rfl,ho⟩:=hrel;have HB:=hid hb;have HO:=hid ho;have hz:=hb.size;clear ho hb;by_cases ah:k<ts.length
 ·obtain⟨g,o,A',cap',aF,rfl,hg,c0,c1,c2,c3,j0,j1,j2,az,ay,aa,af⟩:=Y5 (H.out.1.keep (Zy.of_below HB.out (QT _)) (Lt.mono HB.out.size)) (H.out.2.keep (Zy.of_below HB.out (QT _)) (Lt.mono HB.out.size)) ah;have aC:Hid (Zt ts[k]):=⟨j0,j1,j2⟩;have aj:Z8 Z7 wr (Lt wr.heap.size) ts[k].kids (.slice A' ts[k].kids.length cap'):=⟨A',cap',aF,rfl,az,ay,aa,af⟩;have i5:decide ((k:Int)<(ts.length:Int))=true:=by rw[decide_eq_true_eq];omega
  have i6:(0:Int)<=(k:Int):=by omega
  have i7:(k:Int)<(ts.length:Int):=by omega
  have aD:Hid (ZW ts[k]<=1000000/\k<=1000000):=by
   have h1:=WV ah;have h2:=Xy ts (k+1);have h3:=HC.out;have h4:=zIk ts;constructor<;>omega
  have aH:Hid (ts.take (k+1)=ts.take k++[ts[k]]):=List.take_succ_eq_append_getElem ah;clear j0 j1 j2 az ay aa af
  go_wp2_with fail
  refine(Re ts[k] A' cap' wr aj aC.out aD.out.1).mono ?_;intro e w1 h;obtain⟨v1,rfl,au,aA⟩:=h;have aI:=hid au;have ag:=hid aA;clear au aA aj c0 c1 c2 c3
  go_wp2_with first
   |(
    refine zVq rfl (.tmp 10) (.tmp 16) rfl w.heap.size _ (ts.take k) [ts[k]] rfl ((HO.out.below ag.out).below (Xx _ _)) _ 1 1 rfl (Wd aC.out aI.out hz (fun q hq=>(HO.out.own_lt q hq).2) ag.out.size _ rfl _) (by have:=aD.out.2;simp;omega) (by have:=ag.out.size;simp;omega) ?_;intro v' w' av aB;have aJ:=hid av;have aK:=hid aB;clear av aB)
  go_roundw
  case rel=>exact⟨((HB.out.trans (ag.out.mono hz)).alloc (HB.out.trans (ag.out.mono hz)).size _).trans aK.out,k+1,by omega,by go_num,by rw[aH.out];exact aJ.out⟩
  case measure=>simp[intOf];omega
 obtain rfl:k=ts.length:=by omega
 have i5:decide ((ts.length:Int)<(ts.length:Int))=false:=by rw[decide_eq_false_iff_not];omega
 go_wp2_with fail
 go_ret;exact⟨_,rfl,by have h:=HO.out;rw[List.take_of_length_le (Nat.le_refl _)] at h;exact h,HB.out⟩
def Pt (W:World) (g o b:Nat):Prop:=∃x n c,0<n/\W.cell? ⟨g,o,none⟩=some (.slice (some ⟨b,x,none⟩) n c)
structure Xh (W:World) (T:Nat->Prop):Prop where
 inj:∀{g o g' o' b},T g->T g'->T b->Pt W g o b->Pt W g' o' b->g=g'/\o=o'
 mono:∀{g o b},T g->T b->Pt W g o b->g<b
inductive WY (W:World) (T:Nat->Prop) (g o:Nat):Nat->Prop
 |one {b:Nat}:Pt W g o b->T b->WY W T g o b
 |snoc {y o' b:Nat}:WY W T g o y->Pt W y o' b->T b->WY W T g o b
section
variable {W W':World} {T T':Nat->Prop}
theorem Xh.keep (h:Xh W T) (hk:∀q:Addr,T q.block->W'.cell? q=W.cell? q):Xh W' T:=by
 have hp:∀{g o b},T g->Pt W' g o b->Pt W g o b:=fun {g o b} hg ⟨x,n,c,h0,h1⟩=>⟨x,n,c,h0,(hk ⟨g,o,none⟩ hg).symm.trans h1⟩
 exact⟨fun hg aa hb h1 h2=>h.inj hg aa hb (hp hg h1) (hp aa h2),fun hg hb h1=>h.mono hg hb (hp hg h1)⟩
theorem Xh.sub (h:Xh W T) (hs:∀k,T' k->T k):Xh W T':=⟨fun hg aa hb h1 h2=>h.inj (hs _ hg) (hs _ aa) (hs _ hb) h1 h2,fun hg hb h1=>h.mono (hs _ hg) (hs _ hb) h1⟩
theorem WY.mem {g o b:Nat} (h:WY W T g o b):T b:=by cases h<;>assumption
theorem WY.gt (hL:Xh W T) {g o b:Nat} (hg:T g) (h:WY W T g o b):g<b:=by
 induction h with
 |one h1 h2=>exact hL.mono hg h2 h1
 |snoc h1 h2 h3 ih=>exact Nat.lt_trans ih (hL.mono h1.mem h3 h2)
theorem WY.cons {g o b o' x:Nat} (hp:Pt W g o b) (hb:T b) (h:WY W T b o' x):WY W T g o x:=by
 induction h with
 |one h1 h2=>exact .snoc (.one hp hb) h1 h2
 |snoc h1 h2 h3 ih=>exact .snoc ih h2 h3
theorem WY.sep (hL:Xh W T) {g o1 o2 x:Nat} (hg:T g) (h1:WY W T g o1 x) (h2:WY W T g o2 x):o1=o2:=by
 induction h1 with
 |
  one a1 a2 =>
  cases h2 with
  |one b1 b2=>exact(hL.inj hg hg a2 a1 b1).2
  |
   snoc b1 b2 b3 =>
   have h:=(hL.inj hg b1.mem a2 a1 b2).1;have h3:=b1.gt hL hg;omega
 |
  snoc a1 a2 a3 ih =>
  cases h2 with
  |
   one b1 b2 =>
   have h:=(hL.inj hg a1.mem a3 b1 a2).1;have h3:=a1.gt hL hg;omega
  |
   snoc b1 b2 b3 =>
   have h:=(hL.inj a1.mem b1.mem a3 a2 b2).1;subst h;exact ih b1
mutual
theorem V7:(t:Z9)->∀(cs:List Value) (g o:Nat),XU W T t cs->(∀j u,cs[j]?=some u->W.cell? ⟨g,o+j,none⟩=some u)->XU W (WY W T g (o+3)) t cs
 |
  .mk k s c ts,cs,g,o,h,hc=>by
  unfold XU at h ⊢
  obtain⟨A,cap,rs,h1,h2,h3,h4,h5,h6,h7,h8⟩:=h
  have hl:=(RO.1 h8).len
  by_cases h0:0<rs.length
  ·obtain⟨g1,o1,rfl,hT,hc1⟩:=h7 h0
   have hcell:=hc 3 (.slice (some ⟨g1,o1,none⟩) ts.length cap) (by rw[h1];rfl)
   have hts:0<ts.length:=by
    rcases ts with _|⟨t,ts⟩
    ·rw[List.length_nil,Nat.zero_mul] at hl;omega
    simp
   have hpt:Pt W g (o+3) g1:=⟨_,_,_,hts,hcell⟩
   exact⟨_,cap,rs,h1,h2,h3,h4,h5,h6,fun _=>⟨g1,o1,rfl,.one hpt hT,hc1⟩,zHn ts rs g1 o1 _ h8 hc1 (fun x o' hx=>hx.cons hpt hT)⟩
  have hz:ts=[]:=by
   rcases ts with _|⟨t,ts⟩
   ·rfl
   have hp:=Z7.pos
   rw[List.length_cons,Nat.add_mul] at hl
   omega
  subst hz
  unfold Xi at h8
  subst h8
  exact⟨A,cap,[],h1,h2,h3,h4,h5,h6,Zl.nil_,by unfold Xi;rfl⟩
theorem zHn:(ts:List Z9)->∀(cs:List Value) (g o:Nat) (Q:Nat->Prop),Xi W T ts cs->(∀j u,cs[j]?=some u->W.cell? ⟨g,o+j,none⟩=some u)->(∀x o',WY W T g o' x->Q x)->Xi W Q ts cs
 |[],cs,g,o,Q,h,hc,hQ=>by unfold Xi at h ⊢;exact h
 |
  t::ts,cs,g,o,Q,h,hc,hQ=>by
  unfold Xi at h ⊢
  obtain⟨a,r,rfl,h2,h3⟩:=h
  refine⟨a,r,rfl,XU.keep (fun _ _=>rfl) (fun x hx=>hQ x _ hx) t a (V7 t a g o h2 (fun j u hu=>hc j u ?_)),zHn ts r g (o+a.length) Q h3 (fun j u hu=>?_) hQ⟩
  ·rw[List.getElem?_append_left (List.getElem?_eq_some_iff.1 hu).1];exact hu
  rw[Nat.add_assoc]
  refine hc _ u ?_
  rw[List.getElem?_append_right (by omega),Nat.add_sub_cancel_left];exact hu
end
theorem zFq {ts:List Z9} {v:Value} {g o:Nat} (h:Z8 Z7 W T ts v) (hc:W.cell? ⟨g,o,none⟩=some v):Z8 Z7 W (WY W T g o) ts v:=by
 obtain⟨A,cap,rs,rfl,h1,h2,h3,h4⟩:=h;have hl:=h4.len;by_cases h0:0<rs.length
 ·obtain⟨g1,o1,rfl,hT,hc1⟩:=h3 h0;have hts:0<ts.length:=by
   rcases ts with _|⟨t,ts⟩
   ·rw[List.length_nil,Nat.zero_mul] at hl;omega
   simp
  have hpt:Pt W g o g1:=⟨_,_,_,hts,hc⟩;exact⟨_,cap,rs,rfl,h1,h2,fun _=>⟨g1,o1,rfl,.one hpt hT,hc1⟩,RO.1 (zHn ts rs g1 o1 _ (RO.2 h4) hc1 (fun x o' hx=>hx.cons hpt hT))⟩
 have hz:ts=[]:=by
  rcases ts with _|⟨t,ts⟩
  ·rfl
  have hp:=Z7.pos;rw[List.length_cons,Nat.add_mul] at hl;omega
 subst hz;exact⟨A,cap,[],rfl,h1,h2,Zl.nil_,rfl⟩
def YA (W:World) (T:Nat->Prop) (g o:Nat) (t:Z9):Prop:=∃v,WE W g o t v/\Zt t/\Z8 Z7 W T t.kids v
def UR:Z9->List Nat->Z9->Z9
 |t,[],n=>n
 |t,i::p,n=>.mk t.kind t.text t.cols (t.kids.set i (UR (t.kids.getD i (.mk 0 ⟨#[]⟩ 0 [])) p n))
inductive Xa (W:World) (T:Nat->Prop):Nat->Nat->Z9->List Nat->Nat->Nat->Prop
 |here (g o:Nat) (t:Z9):Xa W T g o t [] g o
 |step (g o:Nat) (t:Z9) (i:Nat) (p:List Nat) (b x c:Nat) (hi:i<t.kids.length) (g' o':Nat):W.cell? ⟨g,o+3,none⟩=some (.slice (some ⟨b,x,none⟩) t.kids.length c)->T b->Xa W T b (x+i*4) t.kids[i] p g' o'->Xa W T g o t (i::p) g' o'
theorem Xa.where_ {g o g' o':Nat} {t:Z9} {p:List Nat} (h:Xa W T g o t p g' o'):(p=[]/\g'=g/\o'=o)\/WY W T g (o+3) g':=by
 induction h with
 |here g o t=>exact .inl ⟨rfl,rfl,rfl⟩
 |
  step g o t i p b x c hi g' o' h1 h2 h3 ih =>
  right;have hpt:Pt W g (o+3) b:=⟨_,_,_,Nat.lt_of_le_of_lt (QU _) hi,h1⟩;rcases ih with ⟨_,rfl,rfl⟩|h
  ·exact .one hpt h2
  exact h.cons hpt h2
theorem Sa {g o b x c:Nat} {t:Z9} (h:YA W T g o t) (hc:W.cell? ⟨g,o+3,none⟩=some (.slice (some ⟨b,x,none⟩) t.kids.length c)) {i:Nat} (hi:i<t.kids.length):YA W T b (x+i*4) t.kids[i]:=by
 obtain⟨v,hn,_,hv⟩:=h;have e:v=.slice (some ⟨b,x,none⟩) t.kids.length c:=Option.some.inj (hn.2.2.2.symm.trans hc);subst e;obtain⟨A,cap,rs,e,h1,h2,h3,h4⟩:=hv;cases e;obtain⟨g1,o1,A',cap',aa,e,hg,t0,t1,t2,t3,b1,b2,b3,b4,b5,b6,b7⟩:=Y5 h3 h4 hi;cases e;exact⟨_,⟨t0,t1,t2,t3⟩,⟨b1,b2,b3⟩,_,_,aa,rfl,b4,b5,b6,b7⟩
theorem zK3 (hL:Xh W T) {g' o':Nat} (n:Z9) (hk:∀q:Addr,T q.block->(q.block=g'->q.off<o'\/o'+4<=q.off)->W'.cell? q=W.cell? q) (hT:∀k,T k->T' k) (hn:YA W' T' g' o' n) {g o:Nat} {t:Z9} {p:List Nat} (h:Xa W T g o t p g' o') (hg:T g\/¬T g/\∀j,j<4->W'.cell? ⟨g,o+j,none⟩=W.cell? ⟨g,o+j,none⟩) (ht:YA W T g o t):YA W' T' g o (UR t p n):=by
 induction h with
 |here g o t=>rw[UR];exact hn
 |
  step g o t i p b x c hi g' o' h1 h2 h3 ih =>
  have hpt:Pt W g (o+3) b:=⟨_,_,_,Nat.lt_of_le_of_lt (QU _) hi,h1⟩;have ai:=ih hk hn (.inl h2) (Sa ht h1 hi);obtain⟨v,ag,av,hv⟩:=ht;have e:v=.slice (some ⟨b,x,none⟩) t.kids.length c:=Option.some.inj (ag.2.2.2.symm.trans h1);subst e;have ah:=h3.where_;have ae:WE W' g o t (.slice (some ⟨b,x,none⟩) t.kids.length c):=by
   rcases hg with hg|⟨_,hg⟩
   ·have hgt:g<g':=by
     have hb:=hL.mono hg h2 hpt;rcases ah with ⟨_,e,_⟩|af
     ·omega
     have:=af.gt hL h2;omega
    exact ag.keep (fun j hj=>hk ⟨g,o+j,none⟩ hg (fun e=>by simp only at e;omega))
   exact ag.keep hg
  have aa:∀(j:Nat) (hj:j<t.kids.length),j≠i->YA W' T' b (x+j*4) t.kids[j]:=by
   intro j hj hne;obtain⟨u,au,ay,ax⟩:=Sa ⟨_,ag,av,hv⟩ h1 hj;refine⟨u,au.keep (fun k hk4=>hk ⟨b,x+j*4+k,none⟩ h2 (fun e=>?_)),ay,(zFq ax au.2.2.2).keep (fun q hq=>hk q hq.mem (fun e=>?_)) (fun k hk=>hT _ hk.mem)⟩
   ·simp only at e ⊢;rcases ah with ⟨_,_,e2⟩|af
    ·omega
    have:=af.gt hL h2;omega
   exfalso;rcases ah with ⟨_,e2,_⟩|af
   ·have:=hq.gt hL h2;omega
   rw[e] at hq;have:=af.sep hL h2 hq;omega
  have ak:t.kids.getD i (.mk 0 ⟨#[]⟩ 0 [])=t.kids[i]:=by rw[List.getD_eq_getElem?_getD,List.getElem?_eq_getElem hi];rfl
  rw[UR,ak];obtain⟨A,cap,rs,e,k1,k2,k3,k4⟩:=hv;cases e;obtain⟨cs,hl,hc⟩:=zKk (W:=W') (S:=T') (g:=b) (hT _ h2) (t.kids.set i (UR t.kids[i] p n)) x (fun j hj=>by
   rw[List.length_set] at hj;by_cases aj:j=i
   ·subst aj;rw[List.getElem_set_self];exact ai
   rw[List.getElem_set_ne (Ne.symm aj)];exact aa j hj aj)
  refine⟨.slice (some ⟨b,x,none⟩) t.kids.length c,ae,av,some ⟨b,x,none⟩,c,cs,?_,?_,k2,fun _=>⟨b,x,rfl,hT _ h2,hc⟩,hl⟩
  ·simp only[Z9.kids,List.length_set]
  simp only[Z9.kids,List.length_set];exact k1
end
def ZG:Z9->List Int->Option Z9
 |
  t,i::k::p =>
  if hi:0<=i/\i.toNat<t.kids.length then
   if hk:0<=k/\k.toNat<(t.kids[i.toNat]'hi.2).kids.length then ZG ((t.kids[i.toNat]'hi.2).kids[k.toNat]'hk.2) p else none
  else none
 |t,[]=>some t
 |_,[_]=>none
def UW (w:World) (r:Option Z9) (e:Ending) (w':World):Prop :=
 (∃n,w'=w.drewN n)/\((r=none/\∃q,e=.returned (.tuple #[.pointer q,.bool false]))\/∃t' g o A cap rs,r=some t'/\e=.returned (.tuple #[.pointer (some ⟨g,o,none⟩),.bool true])/\Ww w (Lt w.heap.size) g o t' A cap rs)
theorem zG0 (t:Z9) (p:List Int) (g0 o0:Nat) (A:Option Addr) (cap:Nat) (rs:List Value) (b:Value) (w:World) (aI:Ww w (Lt w.heap.size) g0 o0 t A cap rs) (hp:Z0 w (Lt w.heap.size) p b) :
  Calls Tryz.prog 113 #[.pointer (some ⟨g0,o0,none⟩),b] w (UW w (ZG t p)):=by
 have HN:=hid aI;have HP:=hid hp;obtain⟨A',cap',rfl⟩:=hp.form;clear aI hp;go_enter Tryz.func113,Tryz.ntmps113
 go_wp2_with fail
 go_loopw [1,0] (fun c r wr=>(∃n,wr=w.drewN n)/\∃(p':List Int) (t':Z9) (g o:Nat) (A1:Option Addr) (aj:Nat) (rs:List Value),r=.pointer (some ⟨g,o,none⟩)/\Z0 w (Lt w.heap.size) p' c/\Ww w (Lt w.heap.size) g o t' A1 aj rs/\ZG t' p'=ZG t p)
  (fun c _ _=>match c with|.slice _ n _=>n|_=>0)
 case atStart=>exact⟨⟨0,rfl⟩,p,t,g0,o0,A,cap,rs,rfl,HP.out,HN.out,rfl⟩
 obtain⟨⟨n,rfl⟩,p',t',g,o,A1,aj,rs,rfl,aH,hn,af⟩:=hrel;have HR:=hid af;have ak:=hid aH;have aR:=hid hn;obtain⟨⟨c0,c1,c2,c3⟩,hg,htx,h4,h5,h6,h7⟩:=hn;obtain⟨A2,aD,ws,rfl,h8,h9,ae,aa⟩:=aH;have av:p'.length<=9223372036854775807:=by unfold maxLen at h9;omega
 have hl2:t'.kids.length<=9223372036854775807:=by unfold maxLen at h5;omega
 have hgl:g<w.heap.size:=hg;clear af HN HP
 match p',av,HR,ak,h8,ae,aa with
 |
  [],av,HR,ak,h8,ae,aa =>
  have HF:Hid (ZG t p=some t'):=by show _=_;rw[<-HR.out];simp[ZG]
  clear ae aa h6 h7
  go_wp2_with fail
  refine bodyPost_ret (v:=.tuple #[.pointer (some ⟨g,o,none⟩),.bool true]) (by simp[results,Tryz.results113,go_sem]) rfl ?_;exact⟨by first|exact⟨_,rfl⟩|(simp only[World.drewN_drewN];exact⟨_,rfl⟩),.inr ⟨_,_,_,_,_,_,HF.out,rfl,aR.out⟩⟩
 |
  [i],av,HR,ak,h8,ae,aa =>
  have HF:Hid (ZG t p=none):=by show _=_;rw[<-HR.out];simp[ZG]
  clear ae aa h6 h7
  go_wp2_with fail
  refine bodyPost_ret (v:=.tuple #[.pointer (some ⟨g,o,none⟩),.bool false]) (by simp[results,Tryz.results113,go_sem]) rfl ?_;exact⟨by first|exact⟨_,rfl⟩|(simp only[World.drewN_drewN];exact⟨_,rfl⟩),.inl ⟨HF.out,_,rfl⟩⟩
 |
  i::k::q,av,HR,ak,h8,ae,aa =>
  obtain⟨g',o',rfl,hg',hi,a0⟩:=YG ae aa (k:=0) (by simp);obtain⟨g2,o2,hq,hg2,hk,a1⟩:=YG ae aa (k:=1) (by simp);cases hq;simp only[List.getElem_cons_zero,List.getElem_cons_succ,Nat.add_zero] at a0 a1 hi hk;obtain⟨A3,aM,hcut⟩:=Wn ZF Tryz.underlying25 XA (some ⟨g',o',none⟩) (i::k::q).length aD 2 2 rfl (by simp);have aG:=hid (hcut _ _ _ ak.out);simp only[List.drop_succ_cons,List.drop_zero] at aG;have i3:(2:Int)<=((i::k::q).length:Int):=by simp;omega
  have ag:(i::k::q).length-2=q.length:=by simp
  have aN:Hid (q.length<(i::k::q).length):=by show _<_;simp;omega
  rw[ag] at aM aG;have m0:(0:Int)<((i::k::q).length:Int):=by simp;omega
  have m2:0<(i::k::q).length:=by simp
  have m1:1<(i::k::q).length:=by simp
  have m3:(1:Int)<((i::k::q).length:Int):=by simp;omega
  clear hcut ag ae aa;generalize (i::k::q).length=m at *;have HX:Hid (ZG t p=ZG t' (i::k::q)):=HR.out.symm;have aF:=hid (show ZG t' (i::k::q)=_ by rw[ZG]);clear HR;by_cases hx:0<=i/\i.toNat<t'.kids.length
  ·obtain⟨hx1,au⟩:=hx;obtain⟨i',rfl⟩:∃i':Nat,i=i':=⟨i.toNat,by omega⟩;simp only[Int.toNat_natCast] at au;obtain⟨gk,ok,B1,b1,bs1,rfl,aP,t0,t1,t2,t3,_,_,hts,aL,aC,az,aA⟩:=Y5 h6 h7 au;have j0:decide ((i':Int)<0)=false:=by simp
   have j1:¬(i':Int)<0:=by omega
   have j2:decide ((t'.kids.length:Int)<=i')=false:=by simp;omega
   have j3:(i':Int)<(t'.kids.length:Int):=by omega
   have aO:gk<w.heap.size:=aP;have hl3:t'.kids[i'].kids.length<=9223372036854775807:=by unfold maxLen at aC;omega
   by_cases hy:0<=k/\k.toNat<t'.kids[i'].kids.length
   ·obtain⟨hy1,ax⟩:=hy;obtain⟨k',rfl⟩:∃k':Nat,k=k':=⟨k.toNat,by omega⟩;simp only[Int.toNat_natCast] at ax;obtain⟨gl,ol,B2,b2,aQ,rfl,aB,s0,s1,s2,s3,_,_,ay,aK,aJ,ah,ai⟩:=Y5 az aA ax;have j4:decide ((k':Int)<0)=false:=by simp
    have j5:¬(k':Int)<0:=by omega
    have j6:decide ((t'.kids[i'].kids.length:Int)<=k')=false:=by simp;omega
    have j7:(k':Int)<(t'.kids[i'].kids.length:Int):=by omega
    have HF:Hid (ZG t'.kids[i'].kids[k'] q=ZG t p):=by
     show _=_;rw[HX.out,ZG,dif_pos ⟨by omega,by simpa using au⟩,dif_pos ⟨by omega,by simpa using ax⟩];rfl
    have aS:Hid (Ww w (Lt w.heap.size) gl (ol+k'*4) t'.kids[i'].kids[k'] B2 b2 aQ):=⟨⟨s0,s1,s2,s3⟩,aB,ay,aK,aJ,ah,ai⟩;clear az aA ah ai h6 h7 HX aF aK aJ aL aC
    go_wp2_with fail
    go_quiet (fail)
    go_wp2_with fail
    go_roundw
    case rel=>exact⟨by first|exact⟨_,rfl⟩|(simp only[World.drewN_drewN];exact⟨_,rfl⟩),q,_,_,_,_,_,_,rfl,aG.out,aS.out,HF.out⟩
    case measure=>exact aN.out
   have HF:Hid (ZG t p=none):=by
    show _=_;rw[HX.out,ZG,dif_pos ⟨by omega,by simpa using au⟩,dif_neg (by simpa using hy)]
   have i2:k<0\/(0<=k/\(t'.kids[i'].kids.length:Int)<=k):=by omega
   clear az aA h6 h7 HX aF aL aC hy;rcases i2 with i2|⟨i2,i3⟩
   ·have j4:decide (k<0)=true:=decide_eq_true i2
    go_wp2_with fail
    go_quiet (fail)
    go_wp2_with fail
    refine bodyPost_ret (v:=.tuple #[.pointer none,.bool false]) (by simp[results,Tryz.results113,go_sem]) rfl ?_;exact⟨by first|exact⟨_,rfl⟩|(simp only[World.drewN_drewN];exact⟨_,rfl⟩),.inl ⟨HF.out,_,rfl⟩⟩
   have j4:decide (k<0)=false:=by simp;omega
   have j5:decide ((t'.kids[i'].kids.length:Int)<=k)=true:=decide_eq_true i3
   go_wp2_with fail
   go_quiet (fail)
   go_wp2_with fail
   refine bodyPost_ret (v:=.tuple #[.pointer none,.bool false]) (by simp[results,Tryz.results113,go_sem]) rfl ?_;exact⟨by first|exact⟨_,rfl⟩|(simp only[World.drewN_drewN];exact⟨_,rfl⟩),.inl ⟨HF.out,_,rfl⟩⟩
  have HF:Hid (ZG t p=none):=by show _=_;rw[HX.out,ZG,dif_neg hx]
  have i2:i<0\/(0<=i/\(t'.kids.length:Int)<=i):=by omega
  clear h6 h7 HX aF hx;rcases i2 with i2|⟨i2,i3⟩
  ·have j4:decide (i<0)=true:=decide_eq_true i2
   go_wp2_with fail
   go_quiet (fail)
   go_wp2_with fail
   refine bodyPost_ret (v:=.tuple #[.pointer none,.bool false]) (by simp[results,Tryz.results113,go_sem]) rfl ?_;exact⟨by first|exact⟨_,rfl⟩|(simp only[World.drewN_drewN];exact⟨_,rfl⟩),.inl ⟨HF.out,_,rfl⟩⟩
  have j4:decide (i<0)=false:=by simp;omega
  have j5:decide ((t'.kids.length:Int)<=i)=true:=decide_eq_true i3
  go_wp2_with fail
  go_quiet (fail)
  go_wp2_with fail
  refine bodyPost_ret (v:=.tuple #[.pointer none,.bool false]) (by simp[results,Tryz.results113,go_sem]) rfl ?_;exact⟨by first|exact⟨_,rfl⟩|(simp only[World.drewN_drewN];exact⟨_,rfl⟩),.inl ⟨HF.out,_,rfl⟩⟩
theorem SQ:(t:Z9)->(p:List Int)->ZG t p=if (ZM t p).2=true then some (ZM t p).1 else none
 |t,[]=>by simp[ZG,ZM]
 |t,[_]=>by simp[ZG,ZM]
 |
  t,i::k::p=>by
  rw[ZG,ZM];split
  ·split
   ·exact SQ _ p
   simp
  simp
theorem zJb:(p:List Int)->(t:Z9)->(l:List Z9)->(ZM t p).2=true->ZV t p l=UR t (p.map Int.toNat) (Z6 l)
 |[],t,l,_=>rfl
 |[_],t,l,h=>by simp[ZM] at h
 |
  i::k::p,t,l,h=>by
  obtain⟨hi,hk,he⟩:=Vr t i k p h;rw[he] at h;rw[ZV,zJb p _ l h];rfl
theorem Yq {t:Z9} {i:Int} (h:i.toNat<t.kids.length):ZY t i=t.kids[i.toNat]:=by
 unfold ZY;rw[List.getD_eq_getElem?_getD,List.getElem?_eq_getElem h];rfl
theorem zJo (k:Int):(ts:List Z9)->(i:Nat)->(h:i<ts.length)->XX k ts=true->Zd ts[i]=true/\((ts[i].kind==1) = !(k==1))
 |
  t::ts,0,_,h=>by
  rw[Vu] at h;simp only[Bool.and_eq_true] at h;refine⟨h.1.2,?_⟩;have:=h.1.1
  revert this
  simp only[List.getElem_cons_zero];cases (t.kind==1)<;>cases (k==1)<;>simp
 |
  t::ts,i+1,hi,h=>by
  rw[Vu] at h;simp only[Bool.and_eq_true] at h;exact zJo k ts i (by simpa using hi) h.2
theorem Wo {t:Z9} (h:Zd t=true) {i:Nat} (hi:i<t.kids.length):Zd t.kids[i]=true/\((t.kids[i].kind==1) = !(t.kind==1)):=by
 obtain⟨k,s,c,ts⟩:=t;rw[Zd] at h;simp only[Bool.and_eq_true] at h;exact zJo k ts i hi h.2
theorem Tz {t:Z9} {i:Nat} (hi:i<t.kids.length):ZW t.kids[i]+1<=ZW t:=by
 have h1:=WV hi;have h2:=Xy t.kids (i+1);have h4:ZW t=1+ZT t.kids:=by cases t;rfl
 omega
theorem zIh:(ts:List Z9)->(i:Nat)->(hi:i<ts.length)->Y8 ts[i]<=YQ ts
 |t::ts,0,_=>by simp only[List.getElem_cons_zero,YQ];omega
 |
  t::ts,i+1,h=>by
  have:=zIh ts i (by simpa using h);simp only[List.getElem_cons_succ,YQ];omega
theorem zFe {t:Z9} {i:Nat} (hi:i<t.kids.length):Y8 t.kids[i]+1<=Y8 t:=by
 have h1:=zIh t.kids i hi;have h4:Y8 t=YQ t.kids+1:=by cases t;rfl
 omega
theorem zPy:(p:List Int)->(t:Z9)->(l:List Z9)->(ZM t p).2=true->Zd (ZV t p l)=true->Zd (Z6 l)=true/\ZW (Z6 l)<=ZW (ZV t p l)/\Y8 (Z6 l)<=Y8 (ZV t p l)
 |[],t,l,_,h=>⟨h,QT _,QT _⟩
 |[_],t,l,h,_=>by simp[ZM] at h
 |
  i::k::p,t,l,h,hf=>by
  obtain⟨hi,hk,he⟩:=Vr t i k p h;rw[he] at h;have e1:ZV t (i::k::p) l=Y0 t i.toNat (Y0 (ZY t i) k.toNat (ZV (ZY (ZY t i) k) p l)):=by rw[ZV]
  rw[e1] at hf ⊢;have ae:i.toNat<(Y0 t i.toNat (Y0 (ZY t i) k.toNat (ZV (ZY (ZY t i) k) p l))).kids.length:=by rw[zK7];exact hi.2
  have aa:k.toNat<(Y0 (ZY t i) k.toNat (ZV (ZY (ZY t i) k) p l)).kids.length:=by rw[zK7];exact hk.2
  have g1:(Y0 t i.toNat (Y0 (ZY t i) k.toNat (ZV (ZY (ZY t i) k) p l))).kids[i.toNat]=Y0 (ZY t i) k.toNat (ZV (ZY (ZY t i) k) p l):=by
   rw[<-Yq ae,zI7 hi.2]
  have g2:(Y0 (ZY t i) k.toNat (ZV (ZY (ZY t i) k) p l)).kids[k.toNat]=ZV (ZY (ZY t i) k) p l:=by
   rw[<-Yq aa,zI7 hk.2]
  have f1:=(Wo hf ae).1;have c1:=Tz ae;have d1:=zFe ae;rw[g1] at f1 c1 d1;have f2:=(Wo f1 aa).1;have c2:=Tz aa;have d2:=zFe aa;rw[g2] at f2 c2 d2;obtain⟨a,b,c⟩:=zPy p _ l h f2;exact⟨a,by omega,by omega⟩
theorem zPw {t:Z9} {p:List Int} {l:List Z9} (hf:(ZM t p).2=true) (h:ZN (ZV t p l)=true):ZN (Z6 l)=true:=by
 unfold ZN at h ⊢;simp only[Bool.and_eq_true,decide_eq_true_eq] at h ⊢;obtain⟨a,b,c⟩:=zPy p t l hf h.1.1.2;exact⟨⟨⟨rfl,a⟩,by omega⟩,by omega⟩
theorem zNv {t:Z9} (h:Zd t=true) (hk:t.kind=1):t=Z6 t.kids:=by
 obtain⟨k,s,c,ts⟩:=t;simp only[Z9.kind] at hk;subst hk;rw[Zd] at h;simp only[Bool.and_eq_true] at h;have h1:=h.1.1;have h2:=h.1.2;simp only[Z6,Z9.kids,Z9.mk.injEq,true_and,and_true];refine⟨?_,?_⟩
 ·simp[YT] at h1;exact zI4.1 (by simpa using h1)
 simp[Zw] at h2;omega
theorem R8:(p:List Int)->(t:Z9)->(ZM t p).2=true->Zd t=true->t.kind=1->Zd (ZM t p).1=true/\(ZM t p).1.kind=1
 |[],t,_,h,hk=>⟨h,hk⟩
 |[_],t,h,_,_=>by simp[ZM] at h
 |
  i::k::p,t,h,hf,hk=>by
  obtain⟨hi,aa,he⟩:=Vr t i k p h;rw[he] at h ⊢;have f1:=Wo hf hi.2;rw[<-Yq hi.2,hk] at f1;have f2:=Wo f1.1 aa.2;rw[<-Yq aa.2,f1.2] at f2;exact R8 p _ h f2.1 (by have:=f2.2;simpa using this)
theorem Ri {t:Z9} {p:List Int} (hv:ZN t=true) (h:(ZM t p).2=true):(ZM t p).1=Z6 (ZM t p).1.kids:=by
 have aa:=X0 hv;obtain⟨h1,h2⟩:=R8 p t h aa.2.2.1 aa.2.1;exact zNv h1 h2
theorem zLv (t:Z9) (i:Nat) (l:List Z9):UR t [i] (Z6 l)=Zp t i l:=rfl
theorem zOf {it nd:Z9} {i:Nat} {inner:List Z9} (hi:i<it.kids.length) (h1:it.kids[i]=Z6 inner) (hj:i<nd.kids.length) (h2:nd.kids[i]=Z6 []):YB (UR it [i] (Z6 [])) nd=YB it (Zp nd i inner):=by
 have aa:UR it [i] (Z6 [])=nd↔it=Zp nd i inner:=by
  rw[zLv];obtain⟨k,s,c,ts⟩:=it;obtain⟨k',s',c',us⟩:=nd;simp only[Z9.kids] at hi h1 hj h2;simp only[Zp,Y0,Z9.kind,Z9.text,Z9.cols,Z9.kids,Z9.mk.injEq];constructor
  ·rintro ⟨rfl,rfl,rfl,rfl⟩;refine⟨rfl,rfl,rfl,?_⟩;rw[List.set_set,<-h1,List.set_getElem_self]
  rintro ⟨rfl,rfl,rfl,rfl⟩;refine⟨rfl,rfl,rfl,?_⟩;rw[List.set_set,<-h2,List.set_getElem_self]
 cases ha:YB (UR it [i] (Z6 [])) nd with
 |true=>exact((R5 _ _).2 (aa.1 ((R5 _ _).1 ha))).symm
 |
  false =>
  cases hb:YB it (Zp nd i inner) with
  |false=>rfl
  |true=>exact absurd ((R5 _ _).2 (aa.2 ((R5 _ _).1 hb))) (by rw[ha];simp)
theorem zK2 {l:List Z9} (h:Zd (Z6 l)=true) {i k:Nat} (hi:i<l.length) (hk:k<l[i].kids.length):l[i].kids[k]=Z6 l[i].kids[k].kids/\(l[i].kind==1)=false:=by
 have f1:=Wo (t:=Z6 l) h (i:=i) hi;have ae:(l[i].kind==1)=false:=by simpa[Z6,Z9.kind,Z9.kids] using f1.2
 have f2:=Wo f1.1 hk;have aa:((l[i].kids[k]).kind==1)=true:=by
  have:=f2.2;simp only[Z6,Z9.kids] at this ⊢;rw[this,ae];rfl
 exact⟨zNv f2.1 (by simpa using aa),ae⟩
def Xg (w:World) (b:Bool) (e:Ending) (w':World):Prop:=e=.returned (.bool b)/\Below w.heap.size w w'
def EqH (t:Z9):Prop:=∀(u:Z9) (W:World) (v1 v2:Value),Z8 Z7 W (Lt W.heap.size) t.kids v1->Z8 Z7 W (Lt W.heap.size) u.kids v2 ->
 Calls Tryz.prog 173 #[.agg #[.int .i64 t.kind,.string t.text,.int .i64 t.cols,v1],.agg #[.int .i64 u.kind,.string u.text,.int .i64 u.cols,v2]] W (Xg W (YB t u))
theorem Vn (xs ys:List Z9) (w:World) (A A':Option Addr) (cap cap':Nat) (hv:Z8 Z7 w (Lt w.heap.size) xs (.slice A xs.length cap)) (hu:Z8 Z7 w (Lt w.heap.size) ys (.slice A' ys.length cap')) (hE:∀t∈xs,EqH t) :
  Calls Tryz.prog 172 #[.slice A xs.length cap,.slice A' ys.length cap',.func (.func 173) #[] #[]] w (Xg w (xs.length==ys.length&&Zr xs ys)):=by
 obtain⟨_,_,rs,hq,aJ,ax,ah,ak⟩:=hv;cases hq;obtain⟨_,_,az,hq,aD,ai,aa,ae⟩:=hu;cases hq;unfold maxLen at ax ai;have H:Hid (Zl w (Lt w.heap.size) A rs/\ZK Z7 w (Lt w.heap.size) xs rs):=⟨ah,ak⟩;have H':Hid (Zl w (Lt w.heap.size) A' az/\ZK Z7 w (Lt w.heap.size) ys az):=⟨aa,ae⟩;clear ah ak aa ae;have l0:xs.length<=9223372036854775807:=by omega
 have l1:ys.length<=9223372036854775807:=by omega
 by_cases hl:xs.length=ys.length
 ·have b0:((xs.length:Int) != (ys.length:Int))=false:=by simp[hl]
  have HF:Hid ((xs.length==ys.length&&Zr xs ys)=Zr xs ys):=by show _=_;simp[hl]
  rw[HF.out];clear HF;have HL:=hid hl;have aH:=hid hE;clear hE hl;go_enter Tryz.func172,Tryz.ntmps172
  go_wp2_with fail
  go_loopw [17] (fun i wr=>Below w.heap.size w wr/\∃(k:Nat),k<=xs.length/\i=.int .i64 k/\Zr (xs.drop k) (ys.drop k)=Zr xs ys) (fun i _=>xs.length-(intOf i).toNat)
  case atStart=>exact⟨QQ _ _,0,QU _,rfl,rfl⟩
  obtain⟨hb,k,hk,rfl,af⟩:=hrel;have HR:=hid af;have HB:=hid hb;clear af;by_cases ay:k<xs.length
  ·have aj:k<ys.length:=by have:=HL.out;omega
   obtain⟨g,o,B,bc,bs,rfl,hg,c0,c1,c2,c3,_,_,_,aG,aF,ah,ak⟩:=Y5 (H.out.1.keep (Zy.of_below hb (QT _)) (Lt.mono hb.size)) (H.out.2.keep (Zy.of_below hb (QT _)) (Lt.mono hb.size)) ay;obtain⟨g',o',B',au,aK,rfl,aI,d0,d1,d2,d3,_,_,_,aC,aB,aa,ae⟩:=Y5 (H'.out.1.keep (Zy.of_below hb (QT _)) (Lt.mono hb.size)) (H'.out.2.keep (Zy.of_below hb (QT _)) (Lt.mono hb.size)) aj;have hg1:g<wr.heap.size:=hg;have hg2:g'<wr.heap.size:=aI;have av:xs[k]∈xs:=List.getElem_mem ay;have HT:=hid (zL0 ay aj);have HV:Hid (Z8 Z7 wr (Lt wr.heap.size) xs[k].kids (.slice B xs[k].kids.length bc)):=⟨B,bc,bs,rfl,aG,aF,ah,ak⟩;have aL:Hid (Z8 Z7 wr (Lt wr.heap.size) ys[k].kids (.slice B' ys[k].kids.length au)):=⟨B',au,aK,rfl,aC,aB,aa,ae⟩;have HC:Hid (∀W,Below wr.heap.size wr W->Calls Tryz.prog 173 #[.agg #[.int .i64 xs[k].kind,.string xs[k].text,.int .i64 xs[k].cols,.slice B xs[k].kids.length bc],.agg #[.int .i64 ys[k].kind,.string ys[k].text,.int .i64 ys[k].cols,.slice B' ys[k].kids.length au]] W (Xg W (YB xs[k] ys[k]))) :=
    fun W hW=>aH.out _ av ys[k] W _ _ (HV.out.below hW hW.size) (aL.out.below hW hW.size)
   have aA:=(QQ wr.heap.size wr).alloc (QT _) (Obj.cells #[.int .i64 xs[k].kind,.string xs[k].text,.int .i64 xs[k].cols,.slice B xs[k].kids.length bc] 24);have HX:=hid (aA.alloc (by simp) (Obj.cells #[.int .i64 ys[k].kind,.string ys[k].text,.int .i64 ys[k].cols,.slice B' ys[k].kids.length au] 24));clear ah ak aa ae hb aG aF aC aB aH b0 aA;generalize ag:YB xs[k] ys[k]=b3 at *;clear ag;have i0:(k:Int)<(xs.length:Int):=by omega
   cases b3
   ·have HF:Hid (Zr xs ys=false):=by show _=_;rw[<-HR.out,HT.out];rfl
    go_wp2_with fail
    refine(HC.out _ HX.out).mono ?_;rintro e w3 ⟨rfl,ag⟩;have HP:=hid (HB.out.trans ((HX.out.trans (ag.mono HX.out.size)).mono HB.out.size));clear ag
    go_wp2_with fail
    go_ret;exact⟨by rw[HF.out];rfl,HP.out⟩
   have HF:Hid (Zr (xs.drop (k+1)) (ys.drop (k+1))=Zr xs ys):=by show _=_;rw[<-HR.out,HT.out];rfl
   go_wp2_with fail
   refine(HC.out _ HX.out).mono ?_;rintro e w3 ⟨rfl,ag⟩;have HP:=hid (HB.out.trans ((HX.out.trans (ag.mono HX.out.size)).mono HB.out.size));clear ag
   go_wp2_with fail
   go_roundw
   case rel=>exact⟨HP.out,k+1,by omega,by go_num,HF.out⟩
   case measure=>simp[intOf];omega
  have HF:Hid (Zr xs ys=true):=by show _=_;rw[<-HR.out,List.drop_of_length_le (by omega),Zr];simp
  clear hb
  go_wp2_with fail
  go_ret;exact⟨by rw[HF.out];rfl,HB.out⟩
 have b0:((xs.length:Int) != (ys.length:Int))=true:=by simp;omega
 have HF:Hid ((xs.length==ys.length&&Zr xs ys)=false):=by show _=_;simp[hl]
 clear hE;go_enter Tryz.func172,Tryz.ntmps172
 go_wp2_with fail
 go_ret;exact⟨by rw[HF.out];rfl,QQ _ _⟩
theorem zJh (t:Z9):EqH t:=by
 induction t using Z9.ind with
 |h t ih =>
 obtain⟨tk,tx,tc,ts⟩:=t;intro u w a b ha hb;obtain⟨uk,ux,uc,us⟩:=u;simp only[Z9.kind,Z9.text,Z9.cols,Z9.kids] at *;have HA:=hid ha;have HB:=hid hb;obtain⟨A,cap,_,rfl,_,_,_,_⟩:=ha;obtain⟨A',cap',_,rfl,_,_,_,_⟩:=hb;rename_i h1 h2 h3 h4 h5 h6 h7 h8;clear h1 h2 h3 h4 h5 h6 h7 h8;have HC:Hid (∀W,Below w.heap.size w W->Calls Tryz.prog 172 #[.slice A ts.length cap,.slice A' us.length cap',.func (.func 173) #[] #[]] W (Xg W (ts.length==us.length&&Zr ts us))) :=
  fun W hW=>Vn ts us W A A' cap cap' (HA.out.below hW hW.size) (HB.out.below hW hW.size) ih
 have HE:Hid (YB (.mk tk tx tc ts) (.mk uk ux uc us)=(tk==uk&&(tx.toList==ux.toList&&(tc==uc&&(ts.length==us.length&&Zr ts us))))):=by show _=_;rw[YB]
 rw[HE.out];clear HE ih HA HB;have HW:Hid (Below w.heap.size w ((w.alloc (Obj.cells #[Value.int IntKind.i64 tk,Value.string tx,Value.int IntKind.i64 tc,.slice A ts.length cap] 24)).alloc
   (Obj.cells #[Value.int IntKind.i64 uk,Value.string ux,Value.int IntKind.i64 uc,.slice A' us.length cap'] 24))):=((QQ _ _).alloc (QT _) _).alloc (by simp) _
 generalize hq:(ts.length==us.length&&Zr ts us)=b at *;clear hq;generalize af:(tk==uk)=b1 at *;generalize hq2:(tx.toList==ux.toList)=b2 at *;generalize ae:(tc==uc)=b3 at *;have hd1:decide (tk=uk)=b1:=by rw[<-af];simp[Bool.beq_eq_decide_eq]
 have hd3:decide (tc=uc)=b3:=by rw[<-ae];simp[Bool.beq_eq_decide_eq]
 cases b1
 ·go_enter Tryz.func173,Tryz.ntmps173
  go_wp2_with fail
  go_ret;exact⟨by rfl,HW.out⟩
 cases b2
 ·go_enter Tryz.func173,Tryz.ntmps173
  go_wp2_with fail
  go_ret;exact⟨by rfl,HW.out⟩
 cases b3
 ·go_enter Tryz.func173,Tryz.ntmps173
  go_wp2_with fail
  go_ret;exact⟨by rfl,HW.out⟩
 go_enter Tryz.func173,Tryz.ntmps173
 go_wp2_with fail
 refine(HC.out _ HW.out).mono ?_;rintro e w3 ⟨rfl,aa⟩;have HP:=hid (HW.out.trans (aa.mono HW.out.size));clear aa HW
 go_wp2_with fail
 go_ret;exact⟨by rfl,HP.out⟩
theorem Uf (xs ys:List Z9) (w:World) (A A':Option Addr) (cap cap':Nat) (hv:Z8 Z7 w (Lt w.heap.size) xs (.slice A xs.length cap)) (hu:Z8 Z7 w (Lt w.heap.size) ys (.slice A' ys.length cap')) :
  Calls Tryz.prog 172 #[.slice A xs.length cap,.slice A' ys.length cap',.func (.func 173) #[] #[]] w (Xg w (xs.length==ys.length&&Zr xs ys)) :=
 Vn xs ys w A A' cap cap' hv hu (fun t _=>zJh t)
theorem zJg (ts:List Z9) (A:Option Addr) (cap:Nat) (w:World) (hv:Z8 Z7 w (Lt w.heap.size) ts (.slice A ts.length cap)) :
  Calls Tryz.prog 54 #[.slice A ts.length cap] w (Xg w (ZN (Z6 ts))):=by
 have C1:Hid (Calls Tryz.prog 53 #[.agg #[.int .i64 1,.string ⟨#[]⟩,.int .i64 0,.slice A ts.length cap]] w fun e w'=>e=.returned (.bool (ZN (Z6 ts)))/\Below w.heap.size w w') :=
  UN (Z6 ts) A cap w hv (show (⟨#[]⟩:ByteArray).size<=maxLen from QU _)
 clear hv;go_enter Tryz.func54,Tryz.ntmps54
 go_wp2_with fail
 refine C1.out.mono ?_;rintro e w1 ⟨rfl,aa⟩
 go_wp2_with fail
 go_ret;exact⟨rfl,aa⟩
def VK (t:Z9):Int:=if t.kind=1 then 0 else t.kids.length
theorem zK0 (t:Z9) (A:Option Addr) (cap:Nat) (w:World):Calls Tryz.prog 128 #[.agg #[.int .i64 t.kind,.string t.text,.int .i64 t.cols,.slice A t.kids.length cap]] w fun e w'=>e=.returned (.int .i64 (VK t))/\Below w.heap.size w w':=by
 have hb:=ZX w (Obj.cells #[.int .i64 t.kind,.string t.text,.int .i64 t.cols,.slice A t.kids.length cap] 24);unfold VK;by_cases h:t.kind=1
 ·rw[h] at hb ⊢;go_enter Tryz.func128,Tryz.ntmps128
  go_wp2_with fail
  go_ret;exact⟨by simp,hb⟩
 have i0:(t.kind==1)=false:=by simpa using h
 go_enter Tryz.func128,Tryz.ntmps128
 go_wp2_with fail
 go_ret;exact⟨by simp[h],hb⟩
theorem zMk {t:Z9} (h:ZN (Z6 [t])=true):VK t=t.kids.length:=by
 have hf:=(X0 h).2.2.1;have h1:=(Wo (t:=Z6 [t]) hf (i:=0) (by simp[Z6,Z9.kids])).2;simp[Z6,Z9.kids,Z9.kind] at h1;exact if_neg h1
theorem zKo (l:List Z9) (slot:Int) (A:Option Addr) (cap:Nat) (w:World) (hv:Z8 Z7 w (Lt w.heap.size) l (.slice A l.length cap)) :
  Calls Tryz.prog 94 #[.slice A l.length cap,.int .i64 slot] w (Xg w (Yf l slot)):=by
 by_cases h1:l.length=1;rotate_left
 ·have hf:Yf l slot=false:=by unfold Yf;simp[h1]
  rw[hf];have i0:((l.length:Int) != 1)=true:=by simp;omega
  clear hv hf;go_enter Tryz.func94,Tryz.ntmps94
  go_wp2_with fail
  go_ret;exact⟨rfl,QQ _ _⟩
 obtain⟨t,rfl⟩:∃t,l=[t]:=List.length_eq_one_iff.1 h1;clear h1;have ak:=hid (zJg [t] A cap w hv);simp only[List.length_cons,List.length_nil,Nat.zero_add] at hv ak ⊢;obtain⟨_,_,rs0,hq,_,_,ah,ai⟩:=hv;cases hq;obtain⟨g,o,A1,c1,rs1,rfl,hg,t0,t1,t2,t3,b1,b2,b3,b4,b5,af,ag⟩:=Y5 ah ai (k:=0) (by simp);simp only[Nat.zero_mul,Nat.add_zero,List.getElem_cons_zero] at t0 t1 t2 t3 b1 b2 b3 b4 b5 af ag;have av:g<w.heap.size:=hg;have KN:Hid (∀W,Below w.heap.size w W->W.cell? ⟨g,o,none⟩=some (.int .i64 t.kind)/\W.cell? ⟨g,o+1,none⟩=some (.string t.text)/\W.cell? ⟨g,o+2,none⟩=some (.int .i64 t.cols)/\W.cell? ⟨g,o+3,none⟩=some (.slice A1 t.kids.length c1)):=fun W hW =>
  ⟨(hW.cell (p:=⟨g,_,none⟩) av).trans t0,(hW.cell (p:=⟨g,_,none⟩) av).trans t1,(hW.cell (p:=⟨g,_,none⟩) av).trans t2,(hW.cell (p:=⟨g,_,none⟩) av).trans t3⟩
 have HS:Hid (Yf [t] slot=(ZN (Z6 [t])&&(decide (0<=slot)&&(decide (slot<t.kids.length)&&decide ((ZY t slot).kids.length=0))))):=by show _=_;unfold Yf;simp
 have ay:Hid (∀W,Below w.heap.size w W->0<=slot->slot<t.kids.length->∃gk ok Ak ck,A1=some ⟨gk,ok,none⟩/\W.cell? ⟨gk,ok+slot.toNat*4+3,none⟩=some (.slice Ak (ZY t slot).kids.length ck)):=fun W hW h0 h1=>by
  obtain⟨gk,ok,Ak,ck,_,rfl,aC,_,_,_,k3,_⟩:=Y5 af ag (k:=slot.toNat) (by omega);have e:ZY t slot=t.kids[slot.toNat]'(by omega):=UL (by omega);rw[e];exact⟨gk,ok,Ak,ck,rfl,(hW.cell (p:=⟨gk,_,none⟩) aC).trans k3⟩
 rw[HS.out];have ax:=hid (zMk (t:=t));generalize hbv:ZN (Z6 [t])=bv at *;clear ah ai af ag t0 t1 t2 t3 b1 b2 b3;cases bv
 ·go_enter Tryz.func94,Tryz.ntmps94
  go_wp2_with fail
  refine ak.out.mono ?_;rintro e w1 ⟨rfl,aa⟩;have ae:=hid aa;clear aa
  go_wp2_with fail
  go_ret;exact⟨rfl,ae.out⟩
 rcases Int.lt_or_le slot 0 with h2|h2
 ·have i1:decide (0<=slot)=false:=by simpa using h2
  have i2:decide (slot<0)=true:=by simpa using h2
  rw[i1];go_enter Tryz.func94,Tryz.ntmps94
  go_wp2_with fail
  refine ak.out.mono ?_;rintro e w1 ⟨rfl,aa⟩;have ae:=hid aa;clear aa
  go_wp2_with fail
  go_ret;exact⟨rfl,ae.out⟩
 have i2:decide (slot<0)=false:=by simpa using h2
 have az:Hid (∀W,Calls Tryz.prog 128 #[.agg #[.int .i64 t.kind,.string t.text,.int .i64 t.cols,.slice A1 t.kids.length c1]] W fun e w'=>e=.returned (.int .i64 t.kids.length)/\Below W.heap.size W w'):=fun W=>by
  have h:=zK0 t A1 c1 W;rw[ax.out rfl] at h;exact h
 have aB:(t.kids.length:Int)<=9223372036854775807:=by unfold maxLen at b5;omega
 rcases Int.lt_or_le slot t.kids.length with h3|h3
 ·have i3:decide ((t.kids.length:Int)<=slot)=false:=by simpa using h3
  have i4:decide (slot<(t.kids.length:Int))=true:=by simpa using h3
  have i1:decide (0<=slot)=true:=by simpa using h2
  obtain⟨gk,ok,Ak,ck,rfl,_⟩:=ay.out w (QQ _ _) h2 h3;have hcc:∀W,Below w.heap.size w W->W.cell? ⟨gk,ok+slot.toNat*4+3,none⟩=W.cell? ⟨gk,ok+slot.toNat*4+3,none⟩:=fun W hW=>rfl
  obtain⟨sl,aA⟩:∃sl:Nat,slot=sl:=⟨slot.toNat,by omega⟩;rw[i4,i1];go_enter Tryz.func94,Tryz.ntmps94
  go_wp2_with fail
  refine ak.out.mono ?_;rintro e w1 ⟨rfl,aa⟩;have ae:=hid aa;obtain⟨q0,q1,q2,q3⟩:=KN.out w1 aa;clear aa
  go_wp2_with fail
  refine(az.out _).mono ?_;rintro e w2 ⟨rfl,aj⟩;have au:=hid (ae.out.trans (aj.mono ae.out.size));obtain⟨q0,q1,q2,q3⟩:=KN.out w2 au.out;obtain⟨gk',ok',Ak',ck',he,q5⟩:=ay.out w2 au.out h2 h3;cases he;clear aj;subst aA;simp only[Int.toNat_natCast] at q5
  go_wp2_with fail
  go_ret;exact⟨by simp[Bool.beq_eq_decide_eq],au.out⟩
 have i3:decide ((t.kids.length:Int)<=slot)=true:=by simpa using h3
 have i4:decide (slot<(t.kids.length:Int))=false:=by simpa using h3
 rw[i4];go_enter Tryz.func94,Tryz.ntmps94
 go_wp2_with fail
 refine ak.out.mono ?_;rintro e w1 ⟨rfl,aa⟩;have ae:=hid aa;obtain⟨q0,q1,q2,q3⟩:=KN.out w1 aa;clear aa
 go_wp2_with fail
 refine(az.out _).mono ?_;rintro e w2 ⟨rfl,aj⟩;have au:=hid (ae.out.trans (aj.mono ae.out.size));clear aj
 go_wp2_with fail
 go_ret;exact⟨by simp,au.out⟩
