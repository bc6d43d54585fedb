/- T -/
import Derived.Test.YthpngeboknmllaaGreatQ0b58
import Derived.Test.YthpngeboknmllaaGreatQfa53
set_option linter.unusedVariables false
set_option linter.unusedSimpArgs false
set_option maxHeartbeats 4000000
set_option maxRecDepth 100000
namespace Go.Proofs.YthpngeboknmllaaGreat
open Go.RowKit
theorem zIl {l:List Z9} {i:Nat} (h:i<l.length):ZW l[i]<=ZT l:=by
 have h1:=Tz (t:=Z6 l) h;have h2:ZW (Z6 l)=1+ZT l:=rfl;have h3:(Z6 l).kids[i]=l[i]:=rfl;rw[h3] at h1;omega
theorem zM2 {l:List Z9} {i:Nat} (h:i<l.length):l.getD i ZJ=l[i]:=by rw[List.getD_eq_getElem?_getD,List.getElem?_eq_getElem h];rfl
theorem zFy {l:List Z9} {slot:Int} (h:Yf l slot=true):∃t s,l=[t]/\slot=(s:Nat)/\∃h:s<t.kids.length,t.kids[s]=Z6 []:=by
 obtain⟨t,rfl,h1,h2,h3⟩:=zE4 h;have hv:ZN (Z6 [t])=true:=by
  unfold Yf at h;simp only[Bool.and_eq_true,decide_eq_true_eq] at h;exact h.2.1
 have hf:=(X0 hv).2.2.1;have hs:slot.toNat<t.kids.length:=by omega
 refine⟨t,slot.toNat,rfl,by omega,hs,?_⟩;have h4:=(zK2 hf (i:=0) (by simp) (k:=slot.toNat) hs).1;simp only[List.getElem_cons_zero] at h4;have h5:ZY t slot=t.kids[slot.toNat]:=Yq hs;rw[h5] at h3;have h6:t.kids[slot.toNat].kids=[]:=List.eq_nil_of_length_eq_zero h3;rw[h6] at h4;exact h4
theorem zQm (op:ZB) (l:List Z9) (lr:Nat) (Ar An A:Option Addr) (cr cn cap:Nat) (w:World) (S:Nat->Prop) (hS:∀q,S q->q<w.heap.size) (hl:Z8 Z7 w S l (.slice A l.length cap)) (hn:Z8 Z7 w S op.nodes (.slice An op.nodes.length cn)) (hf:Yo op=true) (ai:Zd (Z6 l)=true)
  (hcl:ZT l<=50000) (hcn:ZT op.nodes<=50000) (aj:op.text.size<=maxLen) (hr:¬(op.at_<0\/(l.length:Int)<op.at_\/(l.length:Int)-op.at_<YM op)) :
  (op.kind=1/\Calls Tryz.prog 162 #[.agg (YE op (.slice Ar lr cr) (.slice An op.nodes.length cn) (.slice A l.length cap))] w (XB S w (ZC l op))) \/
  (op.kind=2/\Calls Tryz.prog 163 #[.agg (YE op (.slice Ar lr cr) (.slice An op.nodes.length cn) (.slice A l.length cap))] w (XB S w (ZC l op))) \/
  (op.kind=3/\Calls Tryz.prog 164 #[.agg (YE op (.slice Ar lr cr) (.slice An op.nodes.length cn) (.slice A l.length cap))] w (XB S w (ZC l op))) \/
  (op.kind=4/\Calls Tryz.prog 165 #[.agg (YE op (.slice Ar lr cr) (.slice An op.nodes.length cn) (.slice A l.length cap))] w (XB S w (ZC l op))) \/
  (op.kind=5/\Calls Tryz.prog 166 #[.agg (YE op (.slice Ar lr cr) (.slice An op.nodes.length cn) (.slice A l.length cap))] w (XB S w (ZC l op))):=by
 have hll:l.length<=50000:=by have:=WG l;omega
 have hln:op.nodes.length<=50000:=by have:=WG op.nodes;omega
 obtain⟨a,ha⟩:∃a:Nat,op.at_=a:=⟨op.at_.toNat,by omega⟩;have hk:op.kind=1\/op.kind=2\/op.kind=3\/op.kind=4\/op.kind=5:=by
  unfold Yo at hf;by_cases h1:op.kind=1\/op.kind=2
  ·omega
  by_cases h2:op.kind=3\/op.kind=4
  ·omega
  by_cases h3:op.kind=5
  ·omega
  rw[if_neg h1,if_neg h2,if_neg h3] at hf;simp at hf
 rcases hk with hk|hk|hk|hk|hk
 ·refine .inl ⟨hk,?_⟩;have af:YM op=0:=by unfold YM;rw[if_pos hk]
  have e:ZC l op=(Zk l a a op.nodes,0):=by
   unfold ZC;rw[if_neg hr,if_pos hk,ha,Int.toNat_natCast]
  rw[e];exact zM7 op l a lr Ar An A cr cn cap w S hS hl hn ha (by omega) (by omega)
 ·refine .inr (.inl ⟨hk,?_⟩);have af:YM op=op.nodes.length:=by unfold YM;rw[if_neg (by omega),if_pos hk]
  have e2:(op.at_+(op.nodes.length:Int)).toNat=a+op.nodes.length:=by omega
  have e:ZC l op=if UA ((l.take (a+op.nodes.length)).drop a) op.nodes=true then (Zk l a (a+op.nodes.length) [],0) else ([],7):=by
   unfold ZC;rw[if_neg hr,if_neg (by omega),if_pos hk,e2,ha,Int.toNat_natCast]
  rw[e];exact zM6 op l a lr Ar An A cr cn cap w S hS hl hn ha (by omega) (by omega)
 ·refine .inr (.inr (.inl ⟨hk,?_⟩));have af:YM op=op.n:=by unfold YM;rw[if_neg (by omega),if_neg (by omega),if_pos hk]
  unfold Yo at hf;rw[if_neg (by omega),if_pos (by omega)] at hf;simp only[Bool.and_eq_true,decide_eq_true_eq] at hf;obtain⟨t0,s,ae,hs,ag,ah⟩:=zFy hf.2.1;obtain⟨b,hb⟩:∃b:Nat,op.at_+op.n=b:=⟨(op.at_+op.n).toNat,by omega⟩;have e:ZC l op=(Zk l a b [Zp t0 s ((l.take b).drop a)],0):=by
   unfold ZC;rw[if_neg hr,if_neg (by omega),if_neg (by omega),if_pos hk,hb,ha,hs,ae];simp only[Int.toNat_natCast,List.headD_cons]
  rw[e];have hc0:ZW t0<=ZT op.nodes:=by rw[ae];simp[ZT]
  exact zQl op l a b lr s t0 [] Ar An A cr cn cap w S hS hl hn ae hs ag ah (by omega) ha hb (by omega) (by omega) (by omega)
 ·refine .inr (.inr (.inr (.inl ⟨hk,?_⟩)));have af:YM op=1:=by unfold YM;rw[if_neg (by omega),if_neg (by omega),if_neg (by omega)]
  unfold Yo at hf;rw[if_neg (by omega),if_pos (by omega)] at hf;simp only[Bool.and_eq_true,decide_eq_true_eq] at hf;obtain⟨nd,s,ae,hs,ag,ah⟩:=zFy hf.2.1;have aa:a<l.length:=by omega
  have e:ZC l op=TI l a s op.n l[a] nd:=by
   unfold ZC TI;rw[if_neg hr,if_neg (by omega),if_neg (by omega),if_neg (by omega),if_pos hk,ha,hs,ae];have e2:((a:Int)+1).toNat=a+1:=by omega
   simp only[Int.toNat_natCast,List.headD_cons,zM2 aa,e2,ZY];by_cases h1:l[a].kids.length<=s
   ·rw[if_pos (.inl (by omega)),if_pos h1]
   rw[if_neg h1];by_cases h2:(((l[a].kids.getD s ZJ).kids.length:Int) != op.n)=true
   ·rw[if_pos (.inr (.inl (by simpa using h2))),if_pos h2]
   rw[if_neg h2];by_cases h3:YB l[a] (Zp nd s (l[a].kids.getD s ZJ).kids)=true
   ·rw[if_pos h3,if_neg];rintro (h|h|h)
    ·omega
    ·exact h2 (by simpa using h)
    rw[h3] at h;cases h
   rw[if_neg h3,if_pos (.inr (.inr (by simpa using h3)))]
  rw[e];have h1:=zIl aa;exact zM5 op l a lr s l[a] nd Ar An A cr cn cap w S hS hl hn ae hs ag ah ha aa rfl (by have:=(Wo (t:=Z6 l) ai (i:=a) aa).2;simpa[Z6,Z9.kind,Z9.kids] using this) (by omega) (fun h=>(zK2 ai aa h).1) (by omega)
 refine .inr (.inr (.inr (.inr ⟨hk,?_⟩)));have af:YM op=1:=by unfold YM;rw[if_neg (by omega),if_neg (by omega),if_neg (by omega)]
 have aa:a<l.length:=by omega
 have e:ZC l op=Sk l a l[a] op.old op.text:=by
  unfold ZC Sk;rw[if_neg hr,if_neg (by omega),if_neg (by omega),if_neg (by omega),if_neg (by omega),ha];have e2:((a:Int)+1).toNat=a+1:=by omega
  simp only[Int.toNat_natCast,zM2 aa,e2]
 rw[e];exact Vo op l a lr l[a] Ar An A cr cn cap w S hS hl ha aa rfl (by omega) aj
theorem zM8 (op:ZB) (l:List Z9) (lr:Nat) (Ar An A:Option Addr) (cr cn cap:Nat) (w:World) (S:Nat->Prop) (hS:∀q,S q->q<w.heap.size) (hl:Z8 Z7 w S l (.slice A l.length cap)) (hn:Z8 Z7 w S op.nodes (.slice An op.nodes.length cn)) (hf:Yo op=true) (ag:Zd (Z6 l)=true)
  (ai:ZT l<=50000) (ah:ZT op.nodes<=50000) (af:op.text.size<=maxLen) :
  Calls Tryz.prog 143 #[.agg (YE op (.slice Ar lr cr) (.slice An op.nodes.length cn) (.slice A l.length cap))] w (XB S w (ZC l op)):=by
 have av:l.length<=50000:=by have:=WG l;omega
 obtain⟨W0,hW0,hz,KB⟩:=RY op (.slice Ar lr cr) (.slice An op.nodes.length cn) (.slice A l.length cap) w;have aB:=hid KB;obtain⟨⟨⟨m0,m1,m2,m3,m4,m5,m6,m7⟩,m8⟩,aj⟩:=KB W0 (QQ _ _);have ay:=hid aj;have CN:=hid (zOx op l.length lr Ar An A cr cn cap W0 (by omega));have CK:Hid (¬(op.at_<0\/(l.length:Int)<op.at_\/(l.length:Int)-op.at_<YM op)->∀W,Below w.heap.size w W->_):=fun hr W hW=>zQm op l lr Ar An A cr cn cap W S (fun q hq=>QV (hS q hq) hW.size) (YH hl hS hW) (YH hn hS hW) hf ag ai ah af hr
 have HX:Hid (op.at_<0\/(l.length:Int)<op.at_\/(l.length:Int)-op.at_<YM op->ZC l op=([],2)/\SK l.length op=2):=fun h=>⟨by unfold ZC;exact if_pos h,by unfold SK;exact if_pos h⟩
 have HY:Hid (¬(op.at_<0\/(l.length:Int)<op.at_\/(l.length:Int)-op.at_<YM op)->SK l.length op=0):=fun h=>by unfold SK;exact if_neg h
 generalize ZC l op=aA at *;generalize SK l.length op=EN at *;by_cases hr:op.at_<0\/(l.length:Int)<op.at_\/(l.length:Int)-op.at_<YM op
 ·obtain⟨rfl,rfl⟩:=HX.out hr;obtain⟨kind,row,at_,n,nodes,slot,old,text⟩:=op;simp only[YE] at *;clear CK HX HY hr hS hl hn hf ag ai ah af av KB aj;go_enter Tryz.func143,Tryz.ntmps143
  go_wp2_with fail
  refine CN.out.mono ?_;rintro e w1 ⟨rfl,aa⟩;have ae:=hid (Zx ay.out aa);clear aa
  go_wp2_with fail
  refine bodyPost_ret (v:=.tuple #[.slice none 0 0,.int .i64 2]) (by simp[results,Tryz.results143,go_sem]) rfl ?_;exact Um ae.out _
 obtain rfl:=HY.out hr;have ak:=CK.out hr;obtain⟨kind,row,at_,n,nodes,slot,old,text⟩:=op;simp only[YE] at *;have HK:=hid ak;have az:kind=1\/kind=2\/kind=3\/kind=4\/kind=5:=by
  rcases ak w (QQ _ _) with h|h|h|h|h
  ·exact .inl h.1
  ·exact .inr (.inl h.1)
  ·exact .inr (.inr (.inl h.1))
  ·exact .inr (.inr (.inr (.inl h.1)))
  exact .inr (.inr (.inr (.inr h.1)))
 clear CK ak HX HY hr hS hl hn hf ag ai ah af av KB aj;rcases az with rfl|rfl|rfl|rfl|rfl
 all_goals
  simp only[Int.reduceEq,false_and,true_and,false_or,or_false] at HK;go_enter Tryz.func143,Tryz.ntmps143
  go_wp2_with fail
  refine CN.out.mono ?_;rintro e w1 ⟨rfl,aa⟩;have ae:=hid (Zx ay.out aa);obtain⟨⟨⟨m0,m1,m2,m3,m4,m5,m6,m7⟩,m8⟩,_⟩:=aB.out w1 aa;clear aa
  go_wp2_with fail
  refine(HK.out _ ae.out).mono ?_;rintro e w2 ⟨v2,rfl,au,ax⟩;have aC:=hid au;have aD:=hid (Zx ae.out ax);clear au ax
  go_wp2_with fail
  refine bodyPost_ret (v:=.tuple #[v2,.int .i64 aA.2]) (by simp[results,Tryz.results143,go_sem]) rfl ?_;exact⟨v2,rfl,aC.out.keep (fun _ _=>rfl) (fun q hq=>by
   rcases hq with hq|hq
   ·exact .inl hq
   exact .inr ⟨QP ae.out.size hq.1,hq.2⟩),aD.out⟩
