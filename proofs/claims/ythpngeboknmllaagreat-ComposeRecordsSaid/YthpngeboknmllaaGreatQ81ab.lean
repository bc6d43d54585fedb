/- T -/
import Derived.Test.YthpngeboknmllaaGreatQ8e08
import Derived.Test.YthpngeboknmllaaGreatQ6da2
set_option linter.unusedVariables false
set_option linter.unusedSimpArgs false
set_option maxHeartbeats 4000000
set_option maxRecDepth 100000
namespace Go.Proofs.YthpngeboknmllaaGreat
open Go.RowKit
theorem zIl {l:List Z9} {i:Nat} (h:i<l.length):ZR l[i]<=ZQ l:=by
 have h1:=Qr (t:=Z7 l) h;have h2:ZR (Z7 l)=1+ZQ l:=rfl;have h3:(Z7 l).kids[i]=l[i]:=rfl;rw[h3] at h1;omega
theorem zM2 {l:List Z9} {i:Nat} (h:i<l.length):l.getD i ZN=l[i]:=by rw[List.getD_eq_getElem?_getD,List.getElem?_eq_getElem h];rfl
theorem zFy {l:List Z9} {slot:Int} (h:Ye l slot=true):∃t s,l=[t]/\slot=(s:Nat)/\∃h:s<t.kids.length,t.kids[s]=Z7 []:=by
 obtain⟨t,rfl,h1,h2,h3⟩:=R9 h;have hv:ZU (Z7 [t])=true:=by
  unfold Ye at h;simp only[Bool.and_eq_true,decide_eq_true_eq] at h;exact h.2.1
 have hf:=(Yb hv).2.2.1;have hs:slot.toNat<t.kids.length:=by omega
 refine⟨t,slot.toNat,rfl,by omega,hs,?_⟩;have h4:=(zK2 hf (i:=0) (by simp) (k:=slot.toNat) hs).1;simp only[List.getElem_cons_zero] at h4;have h5:ZZ t slot=t.kids[slot.toNat]:=Yi hs;rw[h5] at h3;have h6:t.kids[slot.toNat].kids=[]:=List.eq_nil_of_length_eq_zero h3;rw[h6] at h4;exact h4
theorem zQm (op:ZL) (l:List Z9) (lr:Nat) (Ar An A:Option Addr) (cr cn cap:Nat) (w:World) (S:Nat->Prop) (hS:∀q,S q->q<w.heap.size) (hl:Z8 Z6 w S l (.slice A l.length cap)) (hn:Z8 Z6 w S op.nodes (.slice An op.nodes.length cn)) (hf:Zb op=true) (aj:Y9 (Z7 l)=true)
  (hcl:ZQ l<=50000) (hcn:ZQ op.nodes<=50000) (ak:op.text.size<=maxLen) (hr:¬(op.at_<0\/(l.length:Int)<op.at_\/(l.length:Int)-op.at_<Y7 op)) :
  (op.kind=1/\Calls Tryz.prog 162 #[.agg (Yt op (.slice Ar lr cr) (.slice An op.nodes.length cn) (.slice A l.length cap))] w (Xz S w (ZH l op))) \/
  (op.kind=2/\Calls Tryz.prog 163 #[.agg (Yt op (.slice Ar lr cr) (.slice An op.nodes.length cn) (.slice A l.length cap))] w (Xz S w (ZH l op))) \/
  (op.kind=3/\Calls Tryz.prog 164 #[.agg (Yt op (.slice Ar lr cr) (.slice An op.nodes.length cn) (.slice A l.length cap))] w (Xz S w (ZH l op))) \/
  (op.kind=4/\Calls Tryz.prog 165 #[.agg (Yt op (.slice Ar lr cr) (.slice An op.nodes.length cn) (.slice A l.length cap))] w (Xz S w (ZH l op))) \/
  (op.kind=5/\Calls Tryz.prog 166 #[.agg (Yt op (.slice Ar lr cr) (.slice An op.nodes.length cn) (.slice A l.length cap))] w (Xz S w (ZH l op))):=by
 have hll:l.length<=50000:=by have:=Wz l;omega
 have hln:op.nodes.length<=50000:=by have:=Wz op.nodes;omega
 obtain⟨a,ha⟩:∃a:Nat,op.at_=a:=⟨op.at_.toNat,by omega⟩;have hk:op.kind=1\/op.kind=2\/op.kind=3\/op.kind=4\/op.kind=5:=by
  unfold Zb at hf;by_cases h1:op.kind=1\/op.kind=2
  ·omega
  by_cases h2:op.kind=3\/op.kind=4
  ·omega
  by_cases h3:op.kind=5
  ·omega
  rw[if_neg h1,if_neg h2,if_neg h3] at hf;simp at hf
 rcases hk with hk|hk|hk|hk|hk
 ·refine .inl ⟨hk,?_⟩;have af:Y7 op=0:=by unfold Y7;rw[if_pos hk]
  have e:ZH l op=(Zn l a a op.nodes,0):=by
   unfold ZH;rw[if_neg hr,if_pos hk,ha,Int.toNat_natCast]
  rw[e];exact zM7 op l a lr Ar An A cr cn cap w S hS hl hn ha (by omega) (by omega)
 ·refine .inr (.inl ⟨hk,?_⟩);have af:Y7 op=op.nodes.length:=by unfold Y7;rw[if_neg (by omega),if_pos hk]
  have e2:(op.at_+(op.nodes.length:Int)).toNat=a+op.nodes.length:=by omega
  have e:ZH l op=if Wj ((l.take (a+op.nodes.length)).drop a) op.nodes=true then (Zn l a (a+op.nodes.length) [],0) else ([],7):=by
   unfold ZH;rw[if_neg hr,if_neg (by omega),if_pos hk,e2,ha,Int.toNat_natCast]
  rw[e];exact zM6 op l a lr Ar An A cr cn cap w S hS hl hn ha (by omega) (by omega)
 ·refine .inr (.inr (.inl ⟨hk,?_⟩));have af:Y7 op=op.n:=by unfold Y7;rw[if_neg (by omega),if_neg (by omega),if_pos hk]
  unfold Zb at hf;rw[if_neg (by omega),if_pos (by omega)] at hf;simp only[Bool.and_eq_true,decide_eq_true_eq] at hf;obtain⟨t0,s,ae,hs,ag,ah⟩:=zFy hf.2.1;obtain⟨b,hb⟩:∃b:Nat,op.at_+op.n=b:=⟨(op.at_+op.n).toNat,by omega⟩;have e:ZH l op=(Zn l a b [Zj t0 s ((l.take b).drop a)],0):=by
   unfold ZH;rw[if_neg hr,if_neg (by omega),if_neg (by omega),if_pos hk,hb,ha,hs,ae];simp only[Int.toNat_natCast,List.headD_cons]
  rw[e];have hc0:ZR t0<=ZQ op.nodes:=by rw[ae];simp[ZQ]
  exact zQl op l a b lr s t0 [] Ar An A cr cn cap w S hS hl hn ae hs ag ah (by omega) ha hb (by omega) (by omega) (by omega)
 ·refine .inr (.inr (.inr (.inl ⟨hk,?_⟩)));have af:Y7 op=1:=by unfold Y7;rw[if_neg (by omega),if_neg (by omega),if_neg (by omega)]
  unfold Zb at hf;rw[if_neg (by omega),if_pos (by omega)] at hf;simp only[Bool.and_eq_true,decide_eq_true_eq] at hf;obtain⟨nd,s,ae,hs,ag,ah⟩:=zFy hf.2.1;have aa:a<l.length:=by omega
  have e:ZH l op=Sa l a s op.n l[a] nd:=by
   unfold ZH Sa;rw[if_neg hr,if_neg (by omega),if_neg (by omega),if_neg (by omega),if_pos hk,ha,hs,ae];have e2:((a:Int)+1).toNat=a+1:=by omega
   simp only[Int.toNat_natCast,List.headD_cons,zM2 aa,e2,ZZ];by_cases h1:l[a].kids.length<=s
   ·rw[if_pos (.inl (by omega)),if_pos h1]
   rw[if_neg h1];by_cases h2:(((l[a].kids.getD s ZN).kids.length:Int) != op.n)=true
   ·rw[if_pos (.inr (.inl (by simpa using h2))),if_pos h2]
   rw[if_neg h2];by_cases h3:Yv l[a] (Zj nd s (l[a].kids.getD s ZN).kids)=true
   ·rw[if_pos h3,if_neg];rintro (h|h|h)
    ·omega
    ·exact h2 (by simpa using h)
    rw[h3] at h;cases h
   rw[if_neg h3,if_pos (.inr (.inr (by simpa using h3)))]
  rw[e];have h1:=zIl aa;exact zM5 op l a lr s l[a] nd Ar An A cr cn cap w S hS hl hn ae hs ag ah ha aa rfl (by have:=(VL (t:=Z7 l) aj (i:=a) aa).2;simpa[Z7,Z9.kind,Z9.kids] using this) (by omega) (fun h=>(zK2 aj aa h).1) (by omega)
 refine .inr (.inr (.inr (.inr ⟨hk,?_⟩)));have af:Y7 op=1:=by unfold Y7;rw[if_neg (by omega),if_neg (by omega),if_neg (by omega)]
 have aa:a<l.length:=by omega
 have e:ZH l op=QK l a l[a] op.old op.text:=by
  unfold ZH QK;rw[if_neg hr,if_neg (by omega),if_neg (by omega),if_neg (by omega),if_neg (by omega),ha];have e2:((a:Int)+1).toNat=a+1:=by omega
  simp only[Int.toNat_natCast,zM2 aa,e2]
 rw[e];exact UF op l a lr l[a] Ar An A cr cn cap w S hS hl ha aa rfl (by omega) ak
theorem zM8 (op:ZL) (l:List Z9) (lr:Nat) (Ar An A:Option Addr) (cr cn cap:Nat) (w:World) (S:Nat->Prop) (hS:∀q,S q->q<w.heap.size) (hl:Z8 Z6 w S l (.slice A l.length cap)) (hn:Z8 Z6 w S op.nodes (.slice An op.nodes.length cn)) (hf:Zb op=true) (ag:Y9 (Z7 l)=true)
  (aj:ZQ l<=50000) (ah:ZQ op.nodes<=50000) (af:op.text.size<=maxLen) :
  Calls Tryz.prog 143 #[.agg (Yt op (.slice Ar lr cr) (.slice An op.nodes.length cn) (.slice A l.length cap))] w (Xz S w (ZH l op)):=by
 have ax:l.length<=50000:=by have:=Wz l;omega
 obtain⟨W0,hW0,hz,KB⟩:=Qp op (.slice Ar lr cr) (.slice An op.nodes.length cn) (.slice A l.length cap) w;have aC:=hid KB;obtain⟨⟨⟨m0,m1,m2,m3,m4,m5,m6,m7⟩,m8⟩,ak⟩:=KB W0 (Qg _ _);have az:=hid ak;have CN:=hid (zOx op l.length lr Ar An A cr cn cap W0 (by omega));have CK:Hid (¬(op.at_<0\/(l.length:Int)<op.at_\/(l.length:Int)-op.at_<Y7 op)->∀W,Below w.heap.size w W->_):=fun hr W hW=>zQm op l lr Ar An A cr cn cap W S (fun q hq=>Qk (hS q hq) hW.size) (Yx hl hS hW) (Yx hn hS hW) hf ag aj ah af hr
 have HX:Hid (op.at_<0\/(l.length:Int)<op.at_\/(l.length:Int)-op.at_<Y7 op->ZH l op=([],2)/\Ra l.length op=2):=fun h=>⟨by unfold ZH;exact if_pos h,by unfold Ra;exact if_pos h⟩
 have HY:Hid (¬(op.at_<0\/(l.length:Int)<op.at_\/(l.length:Int)-op.at_<Y7 op)->Ra l.length op=0):=fun h=>by unfold Ra;exact if_neg h
 generalize ZH l op=aB at *;generalize Ra l.length op=EN at *;by_cases hr:op.at_<0\/(l.length:Int)<op.at_\/(l.length:Int)-op.at_<Y7 op
 ·obtain⟨rfl,rfl⟩:=HX.out hr;obtain⟨kind,row,at_,n,nodes,slot,old,text⟩:=op;simp only[Yt] at *;clear CK HX HY hr hS hl hn hf ag aj ah af ax KB ak;go_enter Tryz.func143,Tryz.ntmps143
  go_wp2_with fail
  refine CN.out.mono ?_;rintro e w1 ⟨rfl,aa⟩;have ae:=hid (Zo az.out aa);clear aa
  go_wp2_with fail
  refine bodyPost_ret (v:=.tuple #[.slice none 0 0,.int .i64 2]) (by simp[results,Tryz.results143,go_sem]) rfl ?_;exact Tg ae.out _
 obtain rfl:=HY.out hr;have au:=CK.out hr;obtain⟨kind,row,at_,n,nodes,slot,old,text⟩:=op;simp only[Yt] at *;have HK:=hid au;have aA:kind=1\/kind=2\/kind=3\/kind=4\/kind=5:=by
  rcases au w (Qg _ _) with h|h|h|h|h
  ·exact .inl h.1
  ·exact .inr (.inl h.1)
  ·exact .inr (.inr (.inl h.1))
  ·exact .inr (.inr (.inr (.inl h.1)))
  exact .inr (.inr (.inr (.inr h.1)))
 clear CK au HX HY hr hS hl hn hf ag aj ah af ax KB ak;rcases aA with rfl|rfl|rfl|rfl|rfl
 all_goals
  simp only[Int.reduceEq,false_and,true_and,false_or,or_false] at HK;go_enter Tryz.func143,Tryz.ntmps143
  go_wp2_with fail
  refine CN.out.mono ?_;rintro e w1 ⟨rfl,aa⟩;have ae:=hid (Zo az.out aa);obtain⟨⟨⟨m0,m1,m2,m3,m4,m5,m6,m7⟩,m8⟩,_⟩:=aC.out w1 aa;clear aa
  go_wp2_with fail
  refine(HK.out _ ae.out).mono ?_;rintro e w2 ⟨v2,rfl,av,ay⟩;have aD:=hid av;have aF:=hid (Zo ae.out ay);clear av ay
  go_wp2_with fail
  refine bodyPost_ret (v:=.tuple #[v2,.int .i64 aB.2]) (by simp[results,Tryz.results143,go_sem]) rfl ?_;exact⟨v2,rfl,aD.out.keep (fun _ _=>rfl) (fun q hq=>by
   rcases hq with hq|hq
   ·exact .inl hq
   exact .inr ⟨Qf ae.out.size hq.1,hq.2⟩),aF.out⟩
