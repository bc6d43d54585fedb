/- T -/
import Derived.Test.YthpngeboknmllaaGreatQc901
set_option linter.unusedVariables false
set_option linter.unusedSimpArgs false
set_option maxHeartbeats 8000000
set_option maxRecDepth 100000
namespace Go.Proofs.YthpngeboknmllaaGreat
open Go.RowKit
theorem Sw (l:List Z9) (row:List Int) (at_ n slot:Int) (nodes:List Z9) (old text:ByteArray) (A Ar An:Option Addr) (cap lr cr cn:Nat) (w:World) (S:Nat->Prop) (hS:∀q,S q->q<w.heap.size) (hl:Z8 Z6 w S l (.slice A l.length cap)) (hn:Z8 Z6 w S nodes (.slice An nodes.length cn)) (hat:Z4 at_) (hcl:ZQ l<=1000000) (hcn:ZQ nodes<=1000000) (hn0:0<=n) (aU:Ye nodes slot=true) :
  Calls Tryz.prog 65 #[.slice A l.length cap,.agg (Zm ⟨4,row,at_,n,nodes,slot,old,text⟩ (.slice Ar lr cr) (.slice An nodes.length cn))] w (Xz S w (ZH l ⟨4,row,at_,n,nodes,slot,old,text⟩)):=by
 have cZ:l.length<=1000000:=by have:=Wz l;omega
 have hln:nodes.length<=1000000:=by have:=Wz nodes;omega
 have ak:Y7 ⟨4,row,at_,n,nodes,slot,old,text⟩=1:=by simp[Y7]
 have aj:=hid hS;generalize bn:w.alloc (.cells (Zm ⟨4,row,at_,n,nodes,slot,old,text⟩ (.slice Ar lr cr) (.slice An nodes.length cn)) 49)=W0;have bQ:W0.heap.size=w.heap.size+1:=by rw[<-bn];simp
 have KB:Hid (∀W,Below W0.heap.size W0 W->Ym W w.heap.size ⟨4,row,at_,n,nodes,slot,old,text⟩ (.slice Ar lr cr) (.slice An nodes.length cn)/\Below w.heap.size w W):=fun W hW=>by
  have h0:Ym W0 w.heap.size ⟨4,row,at_,n,nodes,slot,old,text⟩ (.slice Ar lr cr) (.slice An nodes.length cn):=by rw[<-bn];exact Ym.new _ _ _ _ _
  have aO:Below w.heap.size w W0:=by rw[<-bn];exact ZW _ _
  exact⟨h0.below hW (by omega),aO.trans (hW.mono aO.size)⟩
 obtain⟨⟨m0,m1,m2,m3,m4,m5,m6,m7⟩,aO⟩:=KB.out W0 (Qg _ _);have aP:=hid aO;have HZ0:=hid bQ;have HL:=hid hl;have HN:=hid hn;simp only[Zm] at *;clear hS hl hn aO bQ;rcases Int.lt_or_le at_ 0 with r0|r0
 ·have i0:decide (at_<0)=true:=by simpa using r0
  have hr:ZH l ⟨4,row,at_,n,nodes,slot,old,text⟩=([],2):=if_pos (by rw[ak];simp only;omega);rw[hr];clear hr ak;go_enter Tryz.func65,Tryz.ntmps65
  go_wp2_with fail
  refine bodyPost_ret (v:=.tuple #[.slice none 0 0,.int .i64 2]) (by simp[results,Tryz.results65,go_sem]) rfl ?_;exact⟨_,rfl,Z8.nil_ 0 (Qj _) none,aP.out⟩
 have i0:decide (at_<0)=false:=by simpa using r0
 rcases Int.lt_or_le (l.length:Int) at_ with r1|r1
 ·have i1:decide ((l.length:Int)<at_)=true:=by simpa using r1
  have hr:ZH l ⟨4,row,at_,n,nodes,slot,old,text⟩=([],2):=if_pos (by rw[ak];simp only;omega);rw[hr];clear hr ak;go_enter Tryz.func65,Tryz.ntmps65
  go_wp2_with fail
  refine bodyPost_ret (v:=.tuple #[.slice none 0 0,.int .i64 2]) (by simp[results,Tryz.results65,go_sem]) rfl ?_;exact⟨_,rfl,Z8.nil_ 0 (Qj _) none,aP.out⟩
 have i1:decide ((l.length:Int)<at_)=false:=by simpa using r1
 have w1:IntKind.i64.wrap ((l.length:Int)-at_)=(l.length:Int)-at_:=IntWalk.i64_in _ (by omega);rcases Int.lt_or_le ((l.length:Int)-at_) (1) with r2|r2
 ·have i2:decide ((l.length:Int)-at_<1)=true:=by simpa using r2
  have hr:ZH l ⟨4,row,at_,n,nodes,slot,old,text⟩=([],2):=if_pos (by rw[ak];simp only;omega);rw[hr];clear hr ak;go_enter Tryz.func65,Tryz.ntmps65
  go_wp2_with fail
  refine bodyPost_ret (v:=.tuple #[.slice none 0 0,.int .i64 2]) (by simp[results,Tryz.results65,go_sem]) rfl ?_;exact⟨_,rfl,Z8.nil_ 0 (Qj _) none,aP.out⟩
 have i2:decide ((l.length:Int)-at_<1)=false:=by simpa using r2
 have w2:IntKind.i64.wrap (at_+1)=at_+1:=IntWalk.i64_in _ (by omega);have w3:IntKind.i64.wrap at_=at_:=IntWalk.i64_in _ (by omega);have aY:¬(at_<0\/(l.length:Int)<at_\/(l.length:Int)-at_<Y7 ⟨4,row,at_,n,nodes,slot,old,text⟩):=by rw[ak];omega
 obtain⟨a,ha⟩:∃a:Nat,at_=a:=⟨at_.toNat,by omega⟩;obtain⟨b,hb⟩:∃b:Nat,at_+1=b:=⟨(at_+1).toNat,by omega⟩;have bN:a<l.length:=by omega
 obtain⟨t0,bD,bB,bA,bI⟩:=R9 aU;subst bD;have bG:=HN.out;obtain⟨_,_,rs0,hq,_,_,ax,az⟩:=bG;cases hq;obtain⟨g0,o0,A0,c0,cB,rfl,dh,aN,aM,aL,aK,b1,b2,b3,b4,b5,af,ah⟩:=YW ax az (k:=0) (by simp);simp only[Nat.zero_mul,Nat.add_zero,List.getElem_cons_zero,List.length_cons,List.length_nil,Nat.zero_add] at aN aM aL aK b1 b2 b3 b4 b5 af ah m0 m1 m2 m3 m4 m5 m6 m7 bn;have aG:Zk t0:=⟨b1,b2,b3⟩;have au:Z8 Z6 w S t0.kids (.slice A0 t0.kids.length c0):=⟨_,_,cB,rfl,b4,b5,af,ah⟩;have aA:g0<w.heap.size:=aj.out _ dh;have KN:Hid (∀W,Below w.heap.size w W->W.cell? ⟨g0,o0,none⟩=some (.int .i64 t0.kind)/\W.cell? ⟨g0,o0+1,none⟩=some (.string t0.text)/\W.cell? ⟨g0,o0+2,none⟩=some (.int .i64 t0.cols)/\W.cell? ⟨g0,o0+3,none⟩=some (.slice A0 t0.kids.length c0)):=fun W hW =>
  ⟨(hW.cell (p:=⟨g0,_,none⟩) aA).trans aN,(hW.cell (p:=⟨g0,_,none⟩) aA).trans aM,(hW.cell (p:=⟨g0,_,none⟩) aA).trans aL,(hW.cell (p:=⟨g0,_,none⟩) aA).trans aK⟩
 obtain⟨s',cO⟩:∃s':Nat,slot=s':=⟨slot.toNat,by omega⟩;have aX:s'<t0.kids.length:=by omega
 have aV:t0.kids.length<=1000000:=by
  have h1:=XW t0;have h2:ZQ [t0]=ZR t0+0:=rfl;omega
 obtain⟨_,_,rl0,hq,_,_,av,ay⟩:=id HL.out;cases hq;obtain⟨g,o,A1,c1,cK,rfl,hg,aT,aS,aR,aQ,e1,e2,e3,e4,e5,ae,ag⟩:=YW av ay bN;have bu:Z8 Z6 w S l[a].kids (.slice A1 l[a].kids.length c1):=⟨_,_,cK,rfl,e4,e5,ae,ag⟩;have aZ:g<w.heap.size:=aj.out _ hg;have KI:Hid (∀W,Below w.heap.size w W->W.cell? ⟨g,o+a*4,none⟩=some (.int .i64 l[a].kind)/\W.cell? ⟨g,o+a*4+1,none⟩=some (.string l[a].text)/\W.cell? ⟨g,o+a*4+2,none⟩=some (.int .i64 l[a].cols)/\W.cell? ⟨g,o+a*4+3,none⟩=some (.slice A1 l[a].kids.length c1)):=fun W hW =>
  ⟨(hW.cell (p:=⟨g,_,none⟩) aZ).trans aT,(hW.cell (p:=⟨g,_,none⟩) aZ).trans aS,(hW.cell (p:=⟨g,_,none⟩) aZ).trans aR,(hW.cell (p:=⟨g,_,none⟩) aZ).trans aQ⟩
 have bg:l.getD a ZN=l[a]:=by rw[List.getD_eq_getElem?_getD,List.getElem?_eq_getElem bN];rfl
 subst ha;subst cO;have bU:ZH l ⟨4,row,(a:Int),n,[t0],(s':Int),old,text⟩=(if l[a].kids.length<=(s':Int)\/((ZZ l[a] (s':Int)).kids.length:Int)≠n\/Yv l[a] (Zj t0 s' (ZZ l[a] (s':Int)).kids)=false then ([],7) else (Zn l a b (ZZ l[a] (s':Int)).kids,0)):=by
  unfold ZH;rw[if_neg aY,if_neg (by simp),if_neg (by simp),if_neg (by simp),if_pos rfl];simp only[hb,Int.toNat_natCast,List.headD_cons,bg]
 rw[bU];clear bU;have j0:(0:Int)<=(a:Int):=by omega
 have j1:(a:Int)<(l.length:Int):=by omega
 obtain⟨x0,x1,x2,x3⟩:=KI.out W0 aP.out;have KW:Hid (∀k x c v W,Below (W0.alloc (Obj.cells #[.int .i64 k,.string x,.int .i64 c,v] 24)).heap.size (W0.alloc (Obj.cells #[.int .i64 k,.string x,.int .i64 c,v] 24)) W->ZI W W0.heap.size k x c v/\Below W0.heap.size W0 W):=fun k x c v W hW =>
  ⟨(ZI.new W0 k x c v _).below hW (by simp),(ZW _ _).trans (hW.mono (by simp))⟩
 have j2:(0:Int)<=(s':Int):=by omega
 by_cases aW:s'<l[a].kids.length;rotate_left
 ·rw[if_pos (Or.inl (by omega))];have j3:decide ((l[a].kids.length:Int)<=(s':Int))=true:=by rw[decide_eq_true_eq];omega
  have j4:l[a].kids.length<=s':=by omega
  generalize l[a]=item at *;obtain⟨ik,ix,ic,is⟩:=item;simp only[Z9.kind,Z9.text,Z9.cols,Z9.kids] at *;clear aY hb r0 r1 r2 ak aU bB bA bI aX aV ax az af ah b1 b2 b3 b4 b5 aG au aN aM aL aK av ay ae ag aT aS aR aQ e1 e2 e3 e4 e5 bu bg aW;go_enter Tryz.func65,Tryz.ntmps65
  go_upto_region 22 with fail
  obtain⟨X,hX⟩:∃X,W0.alloc (Obj.cells #[.int .i64 ik,.string ix,.int .i64 ic,.slice A1 is.length c1] 24)=X:=⟨_,rfl⟩;rw[hX];obtain⟨⟨y0,y1,y2,y3⟩,aD⟩:=KW.out ik ix ic (.slice A1 is.length c1) X (by rw[hX];exact Qg _ _);obtain⟨⟨m0,m1,m2,m3,m4,m5,m6,m7⟩,aa⟩:=KB.out X aD;have aJ:=hid aa;clear aD aa hX x0 x1 x2 x3
  go_wp2_with fail
  go_quiet (fail)
  go_wp2_with fail
  refine bodyPost_ret (v:=.tuple #[.slice none 0 0,.int .i64 7]) (by simp[results,Tryz.results65,go_sem]) rfl ?_;exact⟨_,rfl,Z8.nil_ 0 (Qj _) none,Sj aJ.out⟩
 have aI:ZZ l[a] (s':Int)=l[a].kids[s']:=by unfold ZZ;rw[Int.toNat_natCast,List.getD_eq_getElem?_getD,List.getElem?_eq_getElem aW];rfl
 rw[aI];obtain⟨gk,ok,A2,c2,cu,rfl,df,d0,d1,d2,d3,f1,f2,f3,f4,f5,aF,aH⟩:=YW ae ag aW;have bq:Z8 Z6 w S l[a].kids[s'].kids (.slice A2 l[a].kids[s'].kids.length c2):=⟨_,_,cu,rfl,f4,f5,aF,aH⟩;have bJ:gk<w.heap.size:=aj.out _ df;have KK:Hid (∀W,Below w.heap.size w W->W.cell? ⟨gk,ok+s'*4+3,none⟩=some (.slice A2 l[a].kids[s'].kids.length c2)):=fun W hW=>(hW.cell (p:=⟨gk,_,none⟩) bJ).trans d3
 have j3:decide ((l[a].kids.length:Int)<=(s':Int))=false:=by rw[decide_eq_false_iff_not];omega
 have j4:(s':Int)<(l[a].kids.length:Int):=by omega
 have j5:¬l[a].kids.length<=s':=by omega
 have bH:l[a].kids[s'].kids.length<=1000000:=by
  have h1:=XW l[a].kids[s'];have h2:=WV aW;have h3:=Xx l[a].kids (s'+1);have h4:ZR l[a]=1+ZQ l[a].kids:=by cases l[a];rfl
  have h5:=WV bN;have h6:=Xx l (a+1);omega
 by_cases aB:(l[a].kids[s'].kids.length:Int)=n;rotate_left
 ·rw[if_pos (Or.inr (Or.inl aB))];have j6:((l[a].kids[s'].kids.length:Int)==n)=false:=by simpa using aB
  have j7:((l[a].kids[s'].kids.length:Int) != n)=true:=by simpa using aB
  generalize l[a].kids[s'].kids.length=m2 at *;generalize l[a]=item at *;obtain⟨ik,ix,ic,is⟩:=item;simp only[Z9.kind,Z9.text,Z9.cols,Z9.kids] at *;clear aY hb r0 r1 r2 ak aU bB bA bI aX aV ax az af ah b1 b2 b3 b4 b5 aG au aN aM aL aK av ay ae ag aT aS aR aQ e1 e2 e3 e4 e5 bu bg d0 d1 d2 d3 f1 f2 f3 f4 f5 aF aH bq aI aB;go_enter Tryz.func65,Tryz.ntmps65
  go_upto_region 22 with fail
  obtain⟨X,hX⟩:∃X,W0.alloc (Obj.cells #[.int .i64 ik,.string ix,.int .i64 ic,.slice (some ⟨gk,ok,none⟩) is.length c1] 24)=X:=⟨_,rfl⟩;rw[hX];obtain⟨⟨y0,y1,y2,y3⟩,aD⟩:=KW.out ik ix ic (.slice (some ⟨gk,ok,none⟩) is.length c1) X (by rw[hX];exact Qg _ _);obtain⟨⟨m0,m1,m2,m3,m4,m5,m6,m7⟩,aa⟩:=KB.out X aD;have d3:=KK.out X aa;have aJ:=hid aa;clear aD aa hX x0 x1 x2 x3
  go_wp2_with fail
  go_quiet (fail)
  go_wp2_with fail
  refine bodyPost_ret (v:=.tuple #[.slice none 0 0,.int .i64 7]) (by simp[results,Tryz.results65,go_sem]) rfl ?_;exact⟨_,rfl,Z8.nil_ 0 (Qj _) none,Sj aJ.out⟩
 have hbb:b=a+1:=by omega
 have CF:Hid (∀W,Below w.heap.size w W->Calls Tryz.prog 105 #[.agg #[.int .i64 t0.kind,.string t0.text,.int .i64 t0.cols,.slice A0 t0.kids.length c0],.int .i64 s',.slice A2 l[a].kids[s'].kids.length c2] W (XC S W (Zj t0 s' l[a].kids[s'].kids))):=fun W hW =>
  zJr t0 s' l[a].kids[s'].kids A0 A2 c0 c2 W S (fun q hq=>Qk (aj.out q hq) hW.size) aX aV bH (Yx au aj.out hW) (Yx bq aj.out hW)
 have CE:Hid (∀W v,Below w.heap.size w W->Z8 Z6 W (Lt W.heap.size) (Zj t0 s' l[a].kids[s'].kids).kids v->Calls Tryz.prog 14 #[.agg #[.int .i64 l[a].kind,.string l[a].text,.int .i64 l[a].cols,.slice (some ⟨gk,ok,none⟩) l[a].kids.length c1],.agg #[.int .i64 (Zj t0 s' l[a].kids[s'].kids).kind,.string (Zj t0 s' l[a].kids[s'].kids).text,.int .i64 (Zj t0 s' l[a].kids[s'].kids).cols,v]] W fun e w'=>e=.returned (.bool (Yv l[a] (Zj t0 s' l[a].kids[s'].kids)))/\Below W.heap.size W w'):=fun W v hW hv =>
  zLz l[a] (Zj t0 s' l[a].kids[s'].kids) W _ v (TR bu aj.out hW) hv
 have CS:Hid (∀W,Below w.heap.size w W->Calls Tryz.prog 104 #[.slice (some ⟨g,o,none⟩) l.length cap,.int .i64 (a:Int),.int .i64 ((a:Int)+1),.slice A2 l[a].kids[s'].kids.length c2] W (XL S W (Zn l a b l[a].kids[s'].kids))):=fun W hW =>
  zEk l l[a].kids[s'].kids (a:Int) ((a:Int)+1) a b (some ⟨g,o,none⟩) A2 cap c2 W S (fun q hq=>Qk (aj.out q hq) hW.size) rfl (by omega) (by omega) (by omega) cZ bH (Yx HL.out aj.out hW) (Yx bq aj.out hW)
 have bW:(if l[a].kids.length<=(s':Int)\/(l[a].kids[s'].kids.length:Int)≠n\/Yv l[a] (Zj t0 s' l[a].kids[s'].kids)=false then (([],7):List Z9×Int) else (Zn l a b l[a].kids[s'].kids,0))=if Yv l[a] (Zj t0 s' l[a].kids[s'].kids)=false then ([],7) else (Zn l a b l[a].kids[s'].kids,0):=by
  by_cases hq:Yv l[a] (Zj t0 s' l[a].kids[s'].kids)=false
  ·rw[if_pos (Or.inr (Or.inr hq)),if_pos hq]
  rw[if_neg hq,if_neg];rintro (h|h|h)
  ·omega
  ·exact h aB
  exact hq h
 rw[bW];have j6:((l[a].kids[s'].kids.length:Int)==n)=true:=by simpa using aB
 have j7:((l[a].kids[s'].kids.length:Int) != n)=false:=by simpa using aB
 obtain⟨q0,q1,q2,q3⟩:=KN.out W0 aP.out;generalize Yv l[a] (Zj t0 s' l[a].kids[s'].kids)=bS at *;generalize Zj t0 s' l[a].kids[s'].kids=R at *;generalize Zn l a b l[a].kids[s'].kids=L at *;generalize l[a].kids[s'].kids.length=n2 at *;generalize l[a]=item at *;obtain⟨ik,ix,ic,is⟩:=item;obtain⟨tk,tx,tc,ts⟩:=t0;obtain⟨rk,rx,rc,rs⟩:=R;simp only[Z9.kind,Z9.text,Z9.cols,Z9.kids] at *;clear aY hb r0 r1 r2 ak aU bB bA bI aX aV ax az af ah b1 b2 b3 b4 b5 aG au aN aM aL aK av ay ae ag aT aS aR aQ e1 e2 e3 e4 e5 bu bg d0 d1 d2 d3 f1 f2 f3 f4 f5 aF aH bq aI aB bW bH;cases bS
 all_goals
  go_enter Tryz.func65,Tryz.ntmps65
  go_upto_region 22 with fail
  obtain⟨X,hX⟩:∃X,W0.alloc (Obj.cells #[.int .i64 ik,.string ix,.int .i64 ic,.slice (some ⟨gk,ok,none⟩) is.length c1] 24)=X:=⟨_,rfl⟩;rw[hX];obtain⟨⟨y0,y1,y2,y3⟩,aD⟩:=KW.out ik ix ic (.slice (some ⟨gk,ok,none⟩) is.length c1) X (by rw[hX];exact Qg _ _);obtain⟨⟨m0,m1,m2,m3,m4,m5,m6,m7⟩,aa⟩:=KB.out X aD;have d3:=KK.out X aa;obtain⟨q0,q1,q2,q3⟩:=KN.out X aa;have aJ:=hid aa;have KX:Hid (∀W,Below X.heap.size X W->ZI W W0.heap.size ik ix ic (.slice (some ⟨gk,ok,none⟩) is.length c1)/\Below W0.heap.size W0 W):=fun W hW=>KW.out ik ix ic _ W (by rw[hX];exact hW)
  clear aD aa hX x0 x1 x2 x3
  go_wp2_with fail
  go_region_held3 (fun w'=>(w'.cell? ⟨w.heap.size,3,none⟩=some (.int .i64 n)/\w'.cell? ⟨w.heap.size,4,none⟩=some (.slice (some ⟨g0,o0,none⟩) 1 cn)/\w'.cell? ⟨w.heap.size,5,none⟩=some (.int .i64 (s':Int)))/\(w'.cell? ⟨g0,o0,none⟩=some (.int .i64 tk)/\w'.cell? ⟨g0,o0+1,none⟩=some (.string tx)/\w'.cell? ⟨g0,o0+2,none⟩=some (.int .i64 tc)/\w'.cell? ⟨g0,o0+3,none⟩=some (.slice A0 ts.length c0)) /\
    (w'.cell? ⟨W0.heap.size,0,none⟩=some (.int .i64 ik)/\w'.cell? ⟨W0.heap.size,1,none⟩=some (.string ix)/\w'.cell? ⟨W0.heap.size,2,none⟩=some (.int .i64 ic)/\w'.cell? ⟨W0.heap.size,3,none⟩=some (.slice (some ⟨gk,ok,none⟩) is.length c1))/\w'.cell? ⟨gk,ok+s'*4+3,none⟩=some (.slice A2 n2 c2)) (go_keep) (first
   |(go_at_call 105;refine(CF.out _ (Xj aJ.out)).mono ?_;intro e w5 h5;obtain⟨v5,rfl,bC,bM⟩:∃v,e=.returned (.agg #[.int .i64 rk,.string rx,.int .i64 rc,v])/\Z8 Z6 w5 (NS S X.heap.size w5) rs v/\Below X.heap.size X w5:=by { obtain⟨v,e1,e2,e3⟩:=XC.ns h5 (b:=X.heap.size) (Qi _);exact⟨v,e1,e2,Xo e3⟩ };obtain⟨A5,c5,rfl⟩:=bC.form;have bZ:=hid bM;have bP:=hid (Zo aJ.out bM);have dm:=hid (Ro bC aj.out bP.out.size);clear bC bM;obtain⟨⟨y0,y1,y2,y3⟩,aC⟩:=KX.out w5 bZ.out;obtain⟨⟨k0,k1,k2,k3,k4,k5,k6,k7⟩,aa⟩:=KB.out w5 aC;have d3:=KK.out w5 aa;obtain⟨q0,q1,q2,q3⟩:=KN.out w5 aa;clear aa aC)
   |(go_at_call 14;refine(CE.out _ _ bP.out dm.out).mono ?_;rintro e w6 ⟨rfl,bL⟩;have bY:=hid (Zo bZ.out bL);have bz:=hid (Zo bP.out bL);clear bL;obtain⟨⟨y0,y1,y2,y3⟩,aC⟩:=KX.out w6 bY.out;obtain⟨⟨k0,k1,k2,k3,k4,k5,k6,k7⟩,aa⟩:=KB.out w6 aC;have d3:=KK.out w6 aa;obtain⟨q0,q1,q2,q3⟩:=KN.out w6 aa;clear aa aC))
  go_wp2_with fail
 ·refine bodyPost_ret (v:=.tuple #[.slice none 0 0,.int .i64 7]) (by simp[results,Tryz.results65,go_sem]) rfl ?_;exact⟨_,rfl,Z8.nil_ 0 (Qj _) none,bz.out⟩
 go_region_held3 (fun w'=>(w'.cell? ⟨w.heap.size,2,none⟩=some (.int .i64 (a:Int))/\w'.cell? ⟨w.heap.size,5,none⟩=some (.int .i64 (s':Int)))/\w'.cell? ⟨W0.heap.size,3,none⟩=some (.slice (some ⟨gk,ok,none⟩) is.length c1)/\w'.cell? ⟨gk,ok+s'*4+3,none⟩=some (.slice A2 n2 c2)) (go_keep) (first
  |(go_at_call 104;refine(CS.out _ (Xj bz.out)).mono ?_;rintro e w7 ⟨v7,rfl,bR,bK⟩;have di:=hid bR;have dn:=hid (Zo bz.out (Xo bK));clear bR;obtain⟨⟨y0,y1,y2,y3⟩,aC⟩:=KX.out w7 (Zo bY.out (Xo bK));obtain⟨⟨k0,k1,k2,k3,k4,k5,k6,k7⟩,aa⟩:=KB.out w7 aC;have d3:=KK.out w7 aa;clear aa aC bK))
 go_wp2_with fail
 refine bodyPost_ret (v:=.tuple #[v7,.int .i64 0]) (by simp[results,Tryz.results65,go_sem]) rfl ?_;exact⟨v7,rfl,di.out.keep (fun _ _=>rfl) (fun q hq=>by rcases hq with hq|hq;exact .inl hq;exact .inr ⟨Qf bz.out.size hq.1,hq.2⟩),dn.out⟩
