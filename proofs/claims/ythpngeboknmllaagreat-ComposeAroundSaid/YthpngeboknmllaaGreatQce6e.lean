/- T -/
import Derived.Test.YthpngeboknmllaaGreatQ71f3
import Derived.Test.YthpngeboknmllaaGreatQb7c8
set_option linter.unusedVariables false
set_option linter.unusedSimpArgs false
set_option maxHeartbeats 2000000
set_option maxRecDepth 100000
namespace Go.Proofs.YthpngeboknmllaaGreat
open Go.RowKit
def Tq (w:World) (T:Nat->Prop) (g0 o0:Nat) (t:Z9) (p:List Int) (e:Ending) (w':World):Prop :=
 (∃n,w'=w.drewN n)/\((ZG t p=none/\∃q,e=.returned (.tuple #[.pointer q,.bool false]))\/∃t' g o,ZG t p=some t'/\e=.returned (.tuple #[.pointer (some ⟨g,o,none⟩),.bool true])/\YA w T g o t'/\Xa w T g0 o0 t (p.map Int.toNat) g o)
def zOd (w:World) (T:Nat->Prop) (g0 o0:Nat) (t:Z9) (p p':List Int) (g o:Nat) (t':Z9):Prop :=
 ∃pre:List Nat,p.map Int.toNat=pre++p'.map Int.toNat/\∀r g' o',Xa w T g o t' r g' o'->Xa w T g0 o0 t (pre++r) g' o'
theorem zOd.step {w:World} {T:Nat->Prop} {g0 o0 g o b x c:Nat} {t t':Z9} {p q:List Int} {i:Nat} (h:zOd w T g0 o0 t p ((i:Int)::q) g o t') (hi:i<t'.kids.length) (hc:w.cell? ⟨g,o+3,none⟩=some (.slice (some ⟨b,x,none⟩) t'.kids.length c)) (hT:T b):zOd w T g0 o0 t p q b (x+i*4) t'.kids[i]:=by
 obtain⟨pre,h1,h2⟩:=h;refine⟨pre++[i],by rw[h1];simp,fun r g' o' hl=>?_⟩;have h3:=h2 (i::r) g' o' (.step g o t' i r b x c hi g' o' hc hT hl);simpa using h3
theorem zKh (t:Z9) (p:List Int) (g0 o0:Nat) (b:Value) (w:World) (T:Nat->Prop) (hT:∀k,T k->k<w.heap.size) (aQ:g0<w.heap.size) (aM:YA w T g0 o0 t) (hp:Z0 w (Lt w.heap.size) p b) :
  Calls Tryz.prog 113 #[.pointer (some ⟨g0,o0,none⟩),b] w (Tq w T g0 o0 t p):=by
 have aU:=hid hT;have bu:=hid aQ;clear hT aQ;have HN:=hid aM;have HP:=hid hp;obtain⟨A',cap',rfl⟩:=hp.form;clear aM hp;go_enter Tryz.func113,Tryz.ntmps113
 go_wp2_with fail
 go_loopw [1,0] (fun c r wr=>(∃n,wr=w.drewN n)/\∃(p':List Int) (t':Z9) (g o:Nat),r=.pointer (some ⟨g,o,none⟩)/\Z0 w (Lt w.heap.size) p' c/\g<w.heap.size/\YA w T g o t'/\zOd w T g0 o0 t p p' g o t'/\ZG t' p'=ZG t p)
  (fun c _ _=>match c with|.slice _ n _=>n|_=>0)
 case atStart=>exact⟨⟨0,rfl⟩,p,t,g0,o0,rfl,HP.out,bu.out,HN.out,⟨[],rfl,fun r g' o' h=>h⟩,rfl⟩
 obtain⟨⟨n,rfl⟩,p',t',g,o,rfl,aL,hg,hn,ai,ah⟩:=hrel;have aa:=hid ai;clear ai;have HR:=hid ah;have az:=hid aL;have bi:=hid hn;obtain⟨_,⟨c0,c1,c2,c3⟩,aX,A1,aZ,rs,rfl,h4,h5,h6,h7⟩:=hn;obtain⟨A2,aI,ws,rfl,h8,h9,ag,af⟩:=aL;have aB:p'.length<=9223372036854775807:=by unfold maxLen at h9;omega
 have hl2:t'.kids.length<=9223372036854775807:=by unfold maxLen at h5;omega
 have hgl:g<w.heap.size:=hg;clear ah HN HP
 match p',aB,HR,az,aa,h8,ag,af with
 |
  [],aB,HR,az,aa,h8,ag,af =>
  have HF:Hid (ZG t p=some t'):=by show _=_;rw[<-HR.out];simp[ZG]
  clear ag af h6 h7
  go_wp2_with fail
  refine bodyPost_ret (v:=.tuple #[.pointer (some ⟨g,o,none⟩),.bool true]) (by simp[results,Tryz.results113,go_sem]) rfl ?_;exact⟨by first|exact⟨_,rfl⟩|(simp only[World.drewN_drewN];exact⟨_,rfl⟩),.inr ⟨_,_,_,HF.out,rfl,bi.out,by obtain⟨pre,h1,h2⟩:=aa.out;rw[h1];exact h2 [] _ _ (.here _ _ _)⟩⟩
 |
  [i],aB,HR,az,aa,h8,ag,af =>
  have HF:Hid (ZG t p=none):=by show _=_;rw[<-HR.out];simp[ZG]
  clear ag af h6 h7
  go_wp2_with fail
  refine bodyPost_ret (v:=.tuple #[.pointer (some ⟨g,o,none⟩),.bool false]) (by simp[results,Tryz.results113,go_sem]) rfl ?_;exact⟨by first|exact⟨_,rfl⟩|(simp only[World.drewN_drewN];exact⟨_,rfl⟩),.inl ⟨HF.out,_,rfl⟩⟩
 |
  i::k::q,aB,HR,az,aa,h8,ag,af =>
  obtain⟨g',o',rfl,hg',hi,a0⟩:=YG ag af (k:=0) (by simp);obtain⟨g2,o2,hq,hg2,hk,a1⟩:=YG ag af (k:=1) (by simp);cases hq;simp only[List.getElem_cons_zero,List.getElem_cons_succ,Nat.add_zero] at a0 a1 hi hk;obtain⟨A3,aV,hcut⟩:=Wn ZF Tryz.underlying25 XA (some ⟨g',o',none⟩) (i::k::q).length aI 2 2 rfl (by simp);have aK:=hid (hcut _ _ _ az.out);simp only[List.drop_succ_cons,List.drop_zero] at aK;have i3:(2:Int)<=((i::k::q).length:Int):=by simp;omega
  have aj:(i::k::q).length-2=q.length:=by simp
  have aW:Hid (q.length<(i::k::q).length):=by show _<_;simp;omega
  rw[aj] at aV aK;have m0:(0:Int)<((i::k::q).length:Int):=by simp;omega
  have m2:0<(i::k::q).length:=by simp
  have m1:1<(i::k::q).length:=by simp
  have m3:(1:Int)<((i::k::q).length:Int):=by simp;omega
  clear hcut aj ag af;generalize (i::k::q).length=m at *;have HX:Hid (ZG t p=ZG t' (i::k::q)):=HR.out.symm;have aJ:=hid (show ZG t' (i::k::q)=_ by rw[ZG]);clear HR;by_cases hx:0<=i/\i.toNat<t'.kids.length
  ·obtain⟨hx1,au⟩:=hx;obtain⟨i',rfl⟩:∃i':Nat,i=i':=⟨i.toNat,by omega⟩;simp only[Int.toNat_natCast] at au;obtain⟨gk,ok,B1,b1,bs1,rfl,aP,t0,t1,t2,t3,_,_,hts,aT,aH,aD,aF⟩:=Y5 h6 h7 au;have ae:=hid (aa.out.step au c3 aP);have HPT:=aa;clear aa;have j0:decide ((i':Int)<0)=false:=by simp
   have j1:¬(i':Int)<0:=by omega
   have j2:decide ((t'.kids.length:Int)<=i')=false:=by simp;omega
   have j3:(i':Int)<(t'.kids.length:Int):=by omega
   have aY:gk<w.heap.size:=aU.out _ aP;have hl3:t'.kids[i'].kids.length<=9223372036854775807:=by unfold maxLen at aH;omega
   by_cases hy:0<=k/\k.toNat<t'.kids[i'].kids.length
   ·obtain⟨hy1,aA⟩:=hy;obtain⟨k',rfl⟩:∃k':Nat,k=k':=⟨k.toNat,by omega⟩;simp only[Int.toNat_natCast] at aA;obtain⟨gl,ol,B2,b2,bg,rfl,ay,s0,s1,s2,s3,aO,aN,aC,aS,aR,av,ax⟩:=Y5 aD aF aA;have ak:=hid (ae.out.step aA t3 ay);clear ae;have j4:decide ((k':Int)<0)=false:=by simp
    have j5:¬(k':Int)<0:=by omega
    have j6:decide ((t'.kids[i'].kids.length:Int)<=k')=false:=by simp;omega
    have j7:(k':Int)<(t'.kids[i'].kids.length:Int):=by omega
    have HF:Hid (ZG t'.kids[i'].kids[k'] q=ZG t p):=by
     show _=_;rw[HX.out,ZG,dif_pos ⟨by omega,by simpa using au⟩,dif_pos ⟨by omega,by simpa using aA⟩];rfl
    have bn:Hid (YA w T gl (ol+k'*4) t'.kids[i'].kids[k']):=⟨_,⟨s0,s1,s2,s3⟩,⟨aO,aN,aC⟩,_,_,bg,rfl,aS,aR,av,ax⟩;have aG:gl<w.heap.size:=aU.out _ ay;clear aO aN;clear aD aF av ax h6 h7 HX aJ aS aR aT aH
    go_wp2_with fail
    go_quiet (fail)
    go_wp2_with fail
    go_roundw
    case rel=>exact⟨by first|exact⟨_,rfl⟩|(simp only[World.drewN_drewN];exact⟨_,rfl⟩),q,_,_,_,rfl,aK.out,aG,bn.out,ak.out,HF.out⟩
    case measure=>exact aW.out
   have HF:Hid (ZG t p=none):=by
    show _=_;rw[HX.out,ZG,dif_pos ⟨by omega,by simpa using au⟩,dif_neg (by simpa using hy)]
   have i2:k<0\/(0<=k/\(t'.kids[i'].kids.length:Int)<=k):=by omega
   clear aD aF h6 h7 HX aJ aT aH hy;rcases i2 with i2|⟨i2,i3⟩
   ·have j4:decide (k<0)=true:=decide_eq_true i2
    go_wp2_with fail
    go_quiet (fail)
    go_wp2_with fail
    refine bodyPost_ret (v:=.tuple #[.pointer none,.bool false]) (by simp[results,Tryz.results113,go_sem]) rfl ?_;exact⟨by first|exact⟨_,rfl⟩|(simp only[World.drewN_drewN];exact⟨_,rfl⟩),.inl ⟨HF.out,_,rfl⟩⟩
   have j4:decide (k<0)=false:=by simp;omega
   have j5:decide ((t'.kids[i'].kids.length:Int)<=k)=true:=decide_eq_true i3
   go_wp2_with fail
   go_quiet (fail)
   go_wp2_with fail
   refine bodyPost_ret (v:=.tuple #[.pointer none,.bool false]) (by simp[results,Tryz.results113,go_sem]) rfl ?_;exact⟨by first|exact⟨_,rfl⟩|(simp only[World.drewN_drewN];exact⟨_,rfl⟩),.inl ⟨HF.out,_,rfl⟩⟩
  have HF:Hid (ZG t p=none):=by show _=_;rw[HX.out,ZG,dif_neg hx]
  have i2:i<0\/(0<=i/\(t'.kids.length:Int)<=i):=by omega
  clear h6 h7 HX aJ hx;rcases i2 with i2|⟨i2,i3⟩
  ·have j4:decide (i<0)=true:=decide_eq_true i2
   go_wp2_with fail
   go_quiet (fail)
   go_wp2_with fail
   refine bodyPost_ret (v:=.tuple #[.pointer none,.bool false]) (by simp[results,Tryz.results113,go_sem]) rfl ?_;exact⟨by first|exact⟨_,rfl⟩|(simp only[World.drewN_drewN];exact⟨_,rfl⟩),.inl ⟨HF.out,_,rfl⟩⟩
  have j4:decide (i<0)=false:=by simp;omega
  have j5:decide ((t'.kids.length:Int)<=i)=true:=decide_eq_true i3
  go_wp2_with fail
  go_quiet (fail)
  go_wp2_with fail
  refine bodyPost_ret (v:=.tuple #[.pointer none,.bool false]) (by simp[results,Tryz.results113,go_sem]) rfl ?_;exact⟨by first|exact⟨_,rfl⟩|(simp only[World.drewN_drewN];exact⟨_,rfl⟩),.inl ⟨HF.out,_,rfl⟩⟩
theorem zGz (t:Z9) (p:List Int) (A:Option Addr) (cap:Nat) (b:Value) (w:World) (hv:Z8 Z7 w (Lt w.heap.size) t.kids (.slice A t.kids.length cap)) (ag:t.text.size<=maxLen) (hp:Z0 w (Lt w.heap.size) p b) :
  Calls Tryz.prog 141 #[.agg #[.int .i64 t.kind,.string t.text,.int .i64 t.cols,.slice A t.kids.length cap],b] w fun e w'=>e=.returned (.bool (ZN t&&ZA t p))/\Below w.heap.size w w':=by
 have ai:Below w.heap.size w (w.alloc (Obj.cells #[.int .i64 t.kind,.string t.text,.int .i64 t.cols,.slice A t.kids.length cap] 24)):=XP _ _;have ae:=hid ai;have C1:Hid (∀W,Below w.heap.size w W->Calls Tryz.prog 53 #[.agg #[.int .i64 t.kind,.string t.text,.int .i64 t.cols,.slice A t.kids.length cap]] W fun e w'=>e=.returned (.bool (ZN t))/\Below W.heap.size W w'):=fun W hW=>UN t A cap W (hv.below hW hW.size) ag
 have C2:Hid (∀W,Below w.heap.size w W->Calls Tryz.prog 145 #[.agg #[.int .i64 t.kind,.string t.text,.int .i64 t.cols,.slice A t.kids.length cap],b] W fun e w'=>e=.returned (.bool (ZA t p))/\Below W.heap.size W w'):=fun W hW=>SS t p A cap b W (hv.below hW hW.size) ag (hp.below hW hW.size)
 have KB:Hid (∀W,Below (w.alloc (Obj.cells #[.int .i64 t.kind,.string t.text,.int .i64 t.cols,.slice A t.kids.length cap] 24)).heap.size (w.alloc (Obj.cells #[.int .i64 t.kind,.string t.text,.int .i64 t.cols,.slice A t.kids.length cap] 24)) W->Yu W w.heap.size t.kind t.cols t.text (.slice A t.kids.length cap)) :=
  fun W hW=>(Yu.new w t.kind t.cols t.text _).below hW (by simp)
 obtain⟨A',cap',rfl⟩:=hp.form;generalize ZA t p=b2 at *;generalize ZN t=b1 at *;obtain⟨tk,tx,tc,ts⟩:=t;simp only[Z9.kind,Z9.text,Z9.cols,Z9.kids] at *;clear hv ag hp ai;cases b1
 ·go_enter Tryz.func141,Tryz.ntmps141
  go_wp2_with fail
  refine(C1.out _ ae.out).mono ?_;rintro e w1 ⟨rfl,aa⟩;have af:=hid (ae.out.trans (aa.mono ae.out.size));clear aa
  go_wp2_with fail
  go_ret;exact⟨rfl,af.out⟩
 go_enter Tryz.func141,Tryz.ntmps141
 go_wp2_with fail
 refine(C1.out _ ae.out).mono ?_;rintro e w1 ⟨rfl,aa⟩;have af:=hid (ae.out.trans (aa.mono ae.out.size));obtain⟨p0,p1,p2,p3⟩:=KB.out w1 aa;clear aa
 go_wp2_with fail
 refine(C2.out _ af.out).mono ?_;rintro e w2 ⟨rfl,ah⟩;have aj:=hid (af.out.trans (ah.mono af.out.size));clear ah p0 p1 p2 p3
 go_wp2_with fail
 go_ret;exact⟨rfl,aj.out⟩
def Tn (w:World) (b1 b2 b3:Bool) (r:List Int×Int×Int) (e:Ending) (w':World):Prop :=
 Below w.heap.size w w'/\((b1=false/\e=.returned (.tuple #[.agg #[.slice none 0 0,.int .i64 0,.int .i64 0],.int .i64 1])) \/
  (b1=true/\(b2&&b3)=false/\e=.returned (.tuple #[.agg #[.slice none 0 0,.int .i64 0,.int .i64 0],.int .i64 2])) \/
  (b1=true/\b2=true/\b3=true/\∃v,e=.returned (.tuple #[.agg #[v,.int .i64 r.2.1,.int .i64 r.2.2],.int .i64 0])/\Z0 w' (fun k=>w.heap.size<=k/\k<w'.heap.size) r.1 v))
theorem zHf {t:Z9} {p:List Int} (hc:ZW t<=1000) (h:ZA t p=true):0<p.length/\p.length<=1000000/\∀x∈p,0<=x/\x<=1000000:=by
 obtain⟨h1,h2⟩:=zKd t p h;have hd:=zDl t;refine⟨?_,by omega,fun x hx=>?_⟩
 ·rcases p with _|⟨_,_⟩
  ·simp[ZA] at h
  simp
 have:=h2 x hx;omega
theorem zFj (t:Z9) (a b:List Int) (A:Option Addr) (cap:Nat) (va vb:Value) (w:World) (hv:Z8 Z7 w (Lt w.heap.size) t.kids (.slice A t.kids.length cap)) (aJ:t.text.size<=maxLen) (ha:Z0 w (Lt w.heap.size) a va) (hb:Z0 w (Lt w.heap.size) b vb) :
  Calls Tryz.prog 112 #[.agg #[.int .i64 t.kind,.string t.text,.int .i64 t.cols,.slice A t.kids.length cap],va,vb] w (Tn w (ZN t) (ZA t a) (ZA t b) (YC a b)):=by
 obtain⟨Aa,ca,rfl⟩:=ha.form;obtain⟨Ab,cb,rfl⟩:=hb.form;have C1:Hid (∀W,Below w.heap.size w W->Calls Tryz.prog 53 #[.agg #[.int .i64 t.kind,.string t.text,.int .i64 t.cols,.slice A t.kids.length cap]] W fun e w'=>e=.returned (.bool (ZN t))/\Below W.heap.size W w'):=fun W hW=>UN t A cap W (hv.below hW hW.size) aJ
 have C2:Hid (∀W,Below w.heap.size w W->ZN t=true->Calls Tryz.prog 141 #[.agg #[.int .i64 t.kind,.string t.text,.int .i64 t.cols,.slice A t.kids.length cap],.slice Aa a.length ca] W fun e w'=>e=.returned (.bool (ZA t a))/\Below W.heap.size W w'):=fun W hW h=>by
  have:=zGz t a A cap _ W (hv.below hW hW.size) aJ (ha.below hW hW.size);rwa[h,Bool.true_and] at this
 have C3:Hid (∀W,Below w.heap.size w W->ZN t=true->Calls Tryz.prog 141 #[.agg #[.int .i64 t.kind,.string t.text,.int .i64 t.cols,.slice A t.kids.length cap],.slice Ab b.length cb] W fun e w'=>e=.returned (.bool (ZA t b))/\Below W.heap.size W w'):=fun W hW h=>by
  have:=zGz t b A cap _ W (hv.below hW hW.size) aJ (hb.below hW hW.size);rwa[h,Bool.true_and] at this
 have C4:Hid (∀W,Below w.heap.size w W->ZN t=true->ZA t a=true->ZA t b=true->Calls Tryz.prog 142 #[.slice Aa a.length ca,.slice Ab b.length cb] W (zMg W (YC a b))):=fun W hW h1 h2 h3=>by
  have hc:ZW t<=1000:=by unfold ZN at h1;simp only[Bool.and_eq_true,decide_eq_true_eq] at h1;omega
  obtain⟨x1,x2,x3⟩:=zHf hc h2;obtain⟨y1,y2,y3⟩:=zHf hc h3;exact zNh a b Aa Ab ca cb W (ha.below hW hW.size) (hb.below hW hW.size) x1 y1 ⟨x2,y2⟩ x3 y3
 generalize YC a b=r at *;generalize ZA t a=b2 at *;generalize ZA t b=b3 at *;generalize ZN t=b1 at *;obtain⟨tk,tx,tc,ts⟩:=t;simp only[Z9.kind,Z9.text,Z9.cols,Z9.kids] at *;clear hv aJ ha hb;generalize aO:(w.alloc (Obj.cells #[.int .i64 tk,.string tx,.int .i64 tc,.slice A ts.length cap] 24)).alloc (.cells #[.slice none 0 0,.int .i64 0,.int .i64 0] 67)=W0;have KB:Hid (∀W,Below W0.heap.size W0 W->(W.cell? ⟨w.heap.size,0,none⟩=some (.int .i64 tk)/\W.cell? ⟨w.heap.size,1,none⟩=some (.string tx)/\W.cell? ⟨w.heap.size,2,none⟩=some (.int .i64 tc)/\W.cell? ⟨w.heap.size,3,none⟩=some (.slice A ts.length cap)) /\
   (W.cell? ⟨w.heap.size+1,0,none⟩=some (.slice none 0 0)/\W.cell? ⟨w.heap.size+1,1,none⟩=some (.int .i64 0)/\W.cell? ⟨w.heap.size+1,2,none⟩=some (.int .i64 0)) /\
   (W.frozen? ⟨w.heap.size+1,0,none⟩=false/\W.frozen? ⟨w.heap.size+1,1,none⟩=false/\W.frozen? ⟨w.heap.size+1,2,none⟩=false)/\Below w.heap.size w W/\w.heap.size+1<W.heap.size):=by
  intro W hW;have hz:W0.heap.size=w.heap.size+1+1:=by rw[<-aO];simp
  have hc:=(bcell hW).1;have hf:=(bcell hW).2;have aV:Below w.heap.size w W0:=by rw[<-aO];exact Below.alloc (XP _ _) (by simp) _
  refine⟨⟨(hc _ _ (by omega)).trans ?_,(hc _ _ (by omega)).trans ?_,(hc _ _ (by omega)).trans ?_,(hc _ _ (by omega)).trans ?_⟩,⟨(hc _ _ (by omega)).trans ?_,(hc _ _ (by omega)).trans ?_,(hc _ _ (by omega)).trans ?_⟩,⟨(hf _ _ (by omega)).trans ?_,(hf _ _ (by omega)).trans ?_,(hf _ _ (by omega)).trans ?_⟩,aV.trans (hW.mono aV.size),by have:=hW.size;omega⟩
  all_goals (rw[<-aO];first|exact XZ _ _ _ _ _ _ rfl|exact Zc _ _ _ _ _ (by simp)|exact YY _ _ _ _ _ (by simp))
 rcases b1 with _|_
 ·clear C2 C3 C4;obtain⟨⟨m0,m1,m2,m3⟩,⟨c0,c1,c2⟩,⟨f0,f1,f2⟩,ae,aA⟩:=KB.out W0 (QQ _ _);have ak:=hid ae;clear ae;go_enter Tryz.func112,Tryz.ntmps112
  go_wp2_with fail
  refine(C1.out _ ak.out).mono ?_;rintro e w1 ⟨rfl,ai⟩;clear m0 m1 m2 m3 c0 c1 c2 f0 f1 f2 aA;obtain⟨⟨m0,m1,m2,m3⟩,aB,⟨f0,f1,f2⟩,aa,aL⟩:=KB.out w1 ai;have ag:=hid ai;have aj:=hid aa;obtain⟨c0,c1,c2⟩:=aB;have aD:=hid (QS c0 (QS c1 c2));clear ai aa
  go_wp2_with fail
  generalize hW:((w1.setCell _ (.slice none 0 0)).setCell _ (.int .i64 0)).setCell _ (.int .i64 0)=W;obtain⟨⟨r0,r1,r2⟩,rz,rb,ro⟩:=three aD.out.1 aD.out.2.1 aD.out.2.2 _ _ _ hW.symm;have aC:=hid (rb w.heap.size w (by omega) aj.out);have _u:=trivial;clear hW ro rb;refine bodyPost_ret (v:=.tuple #[.agg #[(.slice none 0 0),(.int .i64 0),(.int .i64 0)],.int .i64 1]) (by simp[results,Tryz.results112,go_sem,r0,r1,r2]) rfl ?_;exact⟨aC.out,.inl ⟨rfl,rfl⟩⟩
 rcases b2 with _|_
 ·clear C3 C4;obtain⟨⟨m0,m1,m2,m3⟩,⟨c0,c1,c2⟩,⟨f0,f1,f2⟩,ae,aA⟩:=KB.out W0 (QQ _ _);have ak:=hid ae;clear ae;go_enter Tryz.func112,Tryz.ntmps112
  go_wp2_with fail
  refine(C1.out _ ak.out).mono ?_;rintro e w1 ⟨rfl,ai⟩;clear m0 m1 m2 m3 c0 c1 c2 f0 f1 f2 aA;obtain⟨⟨m0,m1,m2,m3⟩,aB,⟨f0,f1,f2⟩,aa,aL⟩:=KB.out w1 ai;have ag:=hid ai;have aj:=hid aa;obtain⟨c0,c1,c2⟩:=aB;have aD:=hid (QS c0 (QS c1 c2));clear ai aa
  go_wp2_with fail
  refine(C2.out _ aj.out (by first|rfl|trivial)).mono ?_;rintro e w2 ⟨rfl,az⟩;clear m0 m1 m2 m3 f0 f1 f2 c0 c1 c2;have af:=hid (ag.out.trans (az.mono ag.out.size));obtain⟨⟨m0,m1,m2,m3⟩,aF,⟨f0,f1,f2⟩,ah,aU⟩:=KB.out w2 af.out;have av:=hid ah;obtain⟨c0,c1,c2⟩:=aF;have aI:=hid (QS c0 (QS c1 c2));clear az ah
  go_wp2_with fail
  generalize hW:((w2.setCell _ (.slice none 0 0)).setCell _ (.int .i64 0)).setCell _ (.int .i64 0)=W;obtain⟨⟨r0,r1,r2⟩,rz,rb,ro⟩:=three aI.out.1 aI.out.2.1 aI.out.2.2 _ _ _ hW.symm;have aC:=hid (rb w.heap.size w (by omega) av.out);have _u:=trivial;clear hW ro rb;refine bodyPost_ret (v:=.tuple #[.agg #[(.slice none 0 0),(.int .i64 0),(.int .i64 0)],.int .i64 2]) (by simp[results,Tryz.results112,go_sem,r0,r1,r2]) rfl ?_;exact⟨aC.out,.inr (.inl ⟨rfl,rfl,rfl⟩)⟩
 rcases b3 with _|_
 ·clear C4;obtain⟨⟨m0,m1,m2,m3⟩,⟨c0,c1,c2⟩,⟨f0,f1,f2⟩,ae,aA⟩:=KB.out W0 (QQ _ _);have ak:=hid ae;clear ae;go_enter Tryz.func112,Tryz.ntmps112
  go_wp2_with fail
  refine(C1.out _ ak.out).mono ?_;rintro e w1 ⟨rfl,ai⟩;clear m0 m1 m2 m3 c0 c1 c2 f0 f1 f2 aA;obtain⟨⟨m0,m1,m2,m3⟩,aB,⟨f0,f1,f2⟩,aa,aL⟩:=KB.out w1 ai;have ag:=hid ai;have aj:=hid aa;obtain⟨c0,c1,c2⟩:=aB;have aD:=hid (QS c0 (QS c1 c2));clear ai aa
  go_wp2_with fail
  refine(C2.out _ aj.out (by first|rfl|trivial)).mono ?_;rintro e w2 ⟨rfl,az⟩;clear m0 m1 m2 m3 f0 f1 f2 c0 c1 c2;have af:=hid (ag.out.trans (az.mono ag.out.size));obtain⟨⟨m0,m1,m2,m3⟩,aF,⟨f0,f1,f2⟩,ah,aU⟩:=KB.out w2 af.out;have av:=hid ah;obtain⟨c0,c1,c2⟩:=aF;have aI:=hid (QS c0 (QS c1 c2));clear az ah
  go_wp2_with fail
  refine(C3.out _ av.out (by first|rfl|trivial)).mono ?_;rintro e w3 ⟨rfl,aH⟩;clear m0 m1 m2 m3 f0 f1 f2 c0 c1 c2;have ax:=hid (af.out.trans (aH.mono af.out.size));obtain⟨⟨m0,m1,m2,m3⟩,aM,⟨f0,f1,f2⟩,au,aT⟩:=KB.out w3 ax.out;have ay:=hid au;obtain⟨c0,c1,c2⟩:=aM;have aK:=hid (QS c0 (QS c1 c2));clear aH au
  go_wp2_with fail
  generalize hW:((w3.setCell _ (.slice none 0 0)).setCell _ (.int .i64 0)).setCell _ (.int .i64 0)=W;obtain⟨⟨r0,r1,r2⟩,rz,rb,ro⟩:=three aK.out.1 aK.out.2.1 aK.out.2.2 _ _ _ hW.symm;have aC:=hid (rb w.heap.size w (by omega) ay.out);have _u:=trivial;clear hW ro rb;refine bodyPost_ret (v:=.tuple #[.agg #[(.slice none 0 0),(.int .i64 0),(.int .i64 0)],.int .i64 2]) (by simp[results,Tryz.results112,go_sem,r0,r1,r2]) rfl ?_;exact⟨aC.out,.inr (.inl ⟨rfl,rfl,rfl⟩)⟩
 skip
 obtain⟨⟨m0,m1,m2,m3⟩,⟨c0,c1,c2⟩,⟨f0,f1,f2⟩,ae,aA⟩:=KB.out W0 (QQ _ _);have ak:=hid ae;clear ae;go_enter Tryz.func112,Tryz.ntmps112
 go_wp2_with fail
 refine(C1.out _ ak.out).mono ?_;rintro e w1 ⟨rfl,ai⟩;clear m0 m1 m2 m3 c0 c1 c2 f0 f1 f2 aA;obtain⟨⟨m0,m1,m2,m3⟩,aB,⟨f0,f1,f2⟩,aa,aL⟩:=KB.out w1 ai;have ag:=hid ai;have aj:=hid aa;obtain⟨c0,c1,c2⟩:=aB;have aD:=hid (QS c0 (QS c1 c2));clear ai aa
 go_wp2_with fail
 refine(C2.out _ aj.out (by first|rfl|trivial)).mono ?_;rintro e w2 ⟨rfl,az⟩;clear m0 m1 m2 m3 f0 f1 f2 c0 c1 c2;have af:=hid (ag.out.trans (az.mono ag.out.size));obtain⟨⟨m0,m1,m2,m3⟩,aF,⟨f0,f1,f2⟩,ah,aU⟩:=KB.out w2 af.out;have av:=hid ah;obtain⟨c0,c1,c2⟩:=aF;have aI:=hid (QS c0 (QS c1 c2));clear az ah
 go_wp2_with fail
 refine(C3.out _ av.out (by first|rfl|trivial)).mono ?_;rintro e w3 ⟨rfl,aH⟩;clear m0 m1 m2 m3 f0 f1 f2 c0 c1 c2;have ax:=hid (af.out.trans (aH.mono af.out.size));obtain⟨⟨m0,m1,m2,m3⟩,aM,⟨f0,f1,f2⟩,au,aT⟩:=KB.out w3 ax.out;have ay:=hid au;obtain⟨c0,c1,c2⟩:=aM;have aK:=hid (QS c0 (QS c1 c2));clear aH au
 go_wp2_with fail
 refine(C4.out _ ay.out (by first|rfl|trivial) (by first|rfl|trivial) (by first|rfl|trivial)).mono ?_;rintro e w4 ⟨v4,rfl,aN,aW⟩;obtain⟨A4,aP,rfl⟩:=aN.form;have aY:=hid aN;clear aN;clear m0 m1 m2 m3 f0 f1 f2 c0 c1 c2;have aS:=hid (ax.out.trans (aW.mono ax.out.size));obtain⟨⟨m0,m1,m2,m3⟩,aX,⟨f0,f1,f2⟩,aG,hz4⟩:=KB.out w4 aS.out;have aR:=hid aG;obtain⟨c0,c1,c2⟩:=aX;have aQ:=hid (QS c0 (QS c1 c2));clear aW aG
 go_wp2_with fail
 generalize hW:((w4.setCell _ (.slice A4 r.1.length aP)).setCell _ (.int .i64 r.2.1)).setCell _ (.int .i64 r.2.2)=W;obtain⟨⟨r0,r1,r2⟩,rz,rb,ro⟩:=three aQ.out.1 aQ.out.2.1 aQ.out.2.2 _ _ _ hW.symm;have aC:=hid (rb w.heap.size w (by omega) aR.out);have aZ:Hid (Z0 W (fun k=>w.heap.size<=k/\k<W.heap.size) r.1 (.slice A4 r.1.length aP)):=by
  refine aY.out.keep (fun p hp=>ro p ?_) (fun j hj=>?_)
  ·have:=hp.1;have:=aT;omega
  have:=hj.1;have:=hj.2;have:=ay.out.size;exact⟨by omega,by omega⟩
 clear hW ro rb;refine bodyPost_ret (v:=.tuple #[.agg #[(.slice A4 r.1.length aP),(.int .i64 r.2.1),(.int .i64 r.2.2)],.int .i64 0]) (by simp[results,Tryz.results112,go_sem,r0,r1,r2]) rfl ?_;exact⟨aC.out,.inr (.inr ⟨rfl,rfl,rfl,_,rfl,aZ.out⟩)⟩
