/- T -/
import Derived.Test.YthpngeboknmllaaGreatQa65a
set_option linter.unusedVariables false
set_option linter.unusedSimpArgs false
set_option maxHeartbeats 8000000
set_option maxRecDepth 100000
namespace Go.Proofs.YthpngeboknmllaaGreat
open Go.RowKit
theorem TV (l:List Z9) (row:List Int) (at_ n slot:Int) (nodes:List Z9) (old text:ByteArray) (A Ar An:Option Addr) (cap lr cr cn:Nat) (w:World) (S:Nat->Prop) (hS:∀q,S q->q<w.heap.size) (hl:Z8 Z7 w S l (.slice A l.length cap)) (hn:Z8 Z7 w S nodes (.slice An nodes.length cn)) (hat:Z4 at_) (hcl:ZT l<=1000000) (hcn:ZT nodes<=1000000) (hn0:0<=n) (aT:Yf nodes slot=true) :
  Calls Tryz.prog 65 #[.slice A l.length cap,.agg (Zu ⟨4,row,at_,n,nodes,slot,old,text⟩ (.slice Ar lr cr) (.slice An nodes.length cn))] w (XB S w (ZC l ⟨4,row,at_,n,nodes,slot,old,text⟩)):=by
 have cO:l.length<=1000000:=by have:=WG l;omega
 have hln:nodes.length<=1000000:=by have:=WG nodes;omega
 have aj:YM ⟨4,row,at_,n,nodes,slot,old,text⟩=1:=by simp[YM]
 have ai:=hid hS;generalize bg:w.alloc (.cells (Zu ⟨4,row,at_,n,nodes,slot,old,text⟩ (.slice Ar lr cr) (.slice An nodes.length cn)) 49)=W0;have bP:W0.heap.size=w.heap.size+1:=by rw[<-bg];simp
 have KB:Hid (∀W,Below W0.heap.size W0 W->Yv W w.heap.size ⟨4,row,at_,n,nodes,slot,old,text⟩ (.slice Ar lr cr) (.slice An nodes.length cn)/\Below w.heap.size w W):=fun W hW=>by
  have h0:Yv W0 w.heap.size ⟨4,row,at_,n,nodes,slot,old,text⟩ (.slice Ar lr cr) (.slice An nodes.length cn):=by rw[<-bg];exact Yv.new _ _ _ _ _
  have aN:Below w.heap.size w W0:=by rw[<-bg];exact ZX _ _
  exact⟨h0.below hW (by omega),aN.trans (hW.mono aN.size)⟩
 obtain⟨⟨m0,m1,m2,m3,m4,m5,m6,m7⟩,aN⟩:=KB.out W0 (QQ _ _);have aO:=hid aN;have HZ0:=hid bP;have HL:=hid hl;have HN:=hid hn;simp only[Zu] at *;clear hS hl hn aN bP;rcases Int.lt_or_le at_ 0 with r0|r0
 ·have i0:decide (at_<0)=true:=by simpa using r0
  have hr:ZC l ⟨4,row,at_,n,nodes,slot,old,text⟩=([],2):=if_pos (by rw[aj];simp only;omega);rw[hr];clear hr aj;go_enter Tryz.func65,Tryz.ntmps65
  go_wp2_with fail
  refine bodyPost_ret (v:=.tuple #[.slice none 0 0,.int .i64 2]) (by simp[results,Tryz.results65,go_sem]) rfl ?_;exact⟨_,rfl,Z8.nil_ 0 (QU _) none,aO.out⟩
 have i0:decide (at_<0)=false:=by simpa using r0
 rcases Int.lt_or_le (l.length:Int) at_ with r1|r1
 ·have i1:decide ((l.length:Int)<at_)=true:=by simpa using r1
  have hr:ZC l ⟨4,row,at_,n,nodes,slot,old,text⟩=([],2):=if_pos (by rw[aj];simp only;omega);rw[hr];clear hr aj;go_enter Tryz.func65,Tryz.ntmps65
  go_wp2_with fail
  refine bodyPost_ret (v:=.tuple #[.slice none 0 0,.int .i64 2]) (by simp[results,Tryz.results65,go_sem]) rfl ?_;exact⟨_,rfl,Z8.nil_ 0 (QU _) none,aO.out⟩
 have i1:decide ((l.length:Int)<at_)=false:=by simpa using r1
 have w1:IntKind.i64.wrap ((l.length:Int)-at_)=(l.length:Int)-at_:=IntWalk.i64_in _ (by omega);rcases Int.lt_or_le ((l.length:Int)-at_) (1) with r2|r2
 ·have i2:decide ((l.length:Int)-at_<1)=true:=by simpa using r2
  have hr:ZC l ⟨4,row,at_,n,nodes,slot,old,text⟩=([],2):=if_pos (by rw[aj];simp only;omega);rw[hr];clear hr aj;go_enter Tryz.func65,Tryz.ntmps65
  go_wp2_with fail
  refine bodyPost_ret (v:=.tuple #[.slice none 0 0,.int .i64 2]) (by simp[results,Tryz.results65,go_sem]) rfl ?_;exact⟨_,rfl,Z8.nil_ 0 (QU _) none,aO.out⟩
 have i2:decide ((l.length:Int)-at_<1)=false:=by simpa using r2
 have w2:IntKind.i64.wrap (at_+1)=at_+1:=IntWalk.i64_in _ (by omega);have w3:IntKind.i64.wrap at_=at_:=IntWalk.i64_in _ (by omega);have aX:¬(at_<0\/(l.length:Int)<at_\/(l.length:Int)-at_<YM ⟨4,row,at_,n,nodes,slot,old,text⟩):=by rw[aj];omega
 obtain⟨a,ha⟩:∃a:Nat,at_=a:=⟨at_.toNat,by omega⟩;obtain⟨b,hb⟩:∃b:Nat,at_+1=b:=⟨(at_+1).toNat,by omega⟩;have bM:a<l.length:=by omega
 obtain⟨t0,bC,bA,bz,bH⟩:=zE4 aT;subst bC;have bD:=HN.out;obtain⟨_,_,rs0,hq,_,_,av,ay⟩:=bD;cases hq;obtain⟨g0,o0,A0,c0,cu,rfl,df,aM,aL,aK,aJ,b1,b2,b3,b4,b5,af,ah⟩:=Y5 av ay (k:=0) (by simp);simp only[Nat.zero_mul,Nat.add_zero,List.getElem_cons_zero,List.length_cons,List.length_nil,Nat.zero_add] at aM aL aK aJ b1 b2 b3 b4 b5 af ah m0 m1 m2 m3 m4 m5 m6 m7 bg;have aF:Zt t0:=⟨b1,b2,b3⟩;have ak:Z8 Z7 w S t0.kids (.slice A0 t0.kids.length c0):=⟨_,_,cu,rfl,b4,b5,af,ah⟩;have az:g0<w.heap.size:=ai.out _ df;have KN:Hid (∀W,Below w.heap.size w W->W.cell? ⟨g0,o0,none⟩=some (.int .i64 t0.kind)/\W.cell? ⟨g0,o0+1,none⟩=some (.string t0.text)/\W.cell? ⟨g0,o0+2,none⟩=some (.int .i64 t0.cols)/\W.cell? ⟨g0,o0+3,none⟩=some (.slice A0 t0.kids.length c0)):=fun W hW =>
  ⟨(hW.cell (p:=⟨g0,_,none⟩) az).trans aM,(hW.cell (p:=⟨g0,_,none⟩) az).trans aL,(hW.cell (p:=⟨g0,_,none⟩) az).trans aK,(hW.cell (p:=⟨g0,_,none⟩) az).trans aJ⟩
 obtain⟨s',cK⟩:∃s':Nat,slot=s':=⟨slot.toNat,by omega⟩;have aW:s'<t0.kids.length:=by omega
 have aU:t0.kids.length<=1000000:=by
  have h1:=Yz t0;have h2:ZT [t0]=ZW t0+0:=rfl;omega
 obtain⟨_,_,rl0,hq,_,_,au,ax⟩:=id HL.out;cases hq;obtain⟨g,o,A1,c1,cB,rfl,hg,aS,aR,aQ,aP,e1,e2,e3,e4,e5,ae,ag⟩:=Y5 au ax bM;have bn:Z8 Z7 w S l[a].kids (.slice A1 l[a].kids.length c1):=⟨_,_,cB,rfl,e4,e5,ae,ag⟩;have aY:g<w.heap.size:=ai.out _ hg;have KI:Hid (∀W,Below w.heap.size w W->W.cell? ⟨g,o+a*4,none⟩=some (.int .i64 l[a].kind)/\W.cell? ⟨g,o+a*4+1,none⟩=some (.string l[a].text)/\W.cell? ⟨g,o+a*4+2,none⟩=some (.int .i64 l[a].cols)/\W.cell? ⟨g,o+a*4+3,none⟩=some (.slice A1 l[a].kids.length c1)):=fun W hW =>
  ⟨(hW.cell (p:=⟨g,_,none⟩) aY).trans aS,(hW.cell (p:=⟨g,_,none⟩) aY).trans aR,(hW.cell (p:=⟨g,_,none⟩) aY).trans aQ,(hW.cell (p:=⟨g,_,none⟩) aY).trans aP⟩
 have aZ:l.getD a ZJ=l[a]:=by rw[List.getD_eq_getElem?_getD,List.getElem?_eq_getElem bM];rfl
 subst ha;subst cK;have bR:ZC l ⟨4,row,(a:Int),n,[t0],(s':Int),old,text⟩=(if l[a].kids.length<=(s':Int)\/((ZY l[a] (s':Int)).kids.length:Int)≠n\/YB l[a] (Zp t0 s' (ZY l[a] (s':Int)).kids)=false then ([],7) else (Zk l a b (ZY l[a] (s':Int)).kids,0)):=by
  unfold ZC;rw[if_neg aX,if_neg (by simp),if_neg (by simp),if_neg (by simp),if_pos rfl];simp only[hb,Int.toNat_natCast,List.headD_cons,aZ]
 rw[bR];clear bR;have j0:(0:Int)<=(a:Int):=by omega
 have j1:(a:Int)<(l.length:Int):=by omega
 obtain⟨x0,x1,x2,x3⟩:=KI.out W0 aO.out;have KW:Hid (∀k x c v W,Below (W0.alloc (Obj.cells #[.int .i64 k,.string x,.int .i64 c,v] 24)).heap.size (W0.alloc (Obj.cells #[.int .i64 k,.string x,.int .i64 c,v] 24)) W->ZL W W0.heap.size k x c v/\Below W0.heap.size W0 W):=fun k x c v W hW =>
  ⟨(ZL.new W0 k x c v _).below hW (by simp),(ZX _ _).trans (hW.mono (by simp))⟩
 have j2:(0:Int)<=(s':Int):=by omega
 by_cases aV:s'<l[a].kids.length;rotate_left
 ·rw[if_pos (Or.inl (by omega))];have j3:decide ((l[a].kids.length:Int)<=(s':Int))=true:=by rw[decide_eq_true_eq];omega
  have j4:l[a].kids.length<=s':=by omega
  generalize l[a]=item at *;obtain⟨ik,ix,ic,is⟩:=item;simp only[Z9.kind,Z9.text,Z9.cols,Z9.kids] at *;clear aX hb r0 r1 r2 aj aT bA bz bH aW aU av ay af ah b1 b2 b3 b4 b5 aF ak aM aL aK aJ au ax ae ag aS aR aQ aP e1 e2 e3 e4 e5 bn aZ aV;go_enter Tryz.func65,Tryz.ntmps65
  go_upto_region 22 with fail
  obtain⟨X,hX⟩:∃X,W0.alloc (Obj.cells #[.int .i64 ik,.string ix,.int .i64 ic,.slice A1 is.length c1] 24)=X:=⟨_,rfl⟩;rw[hX];obtain⟨⟨y0,y1,y2,y3⟩,aC⟩:=KW.out ik ix ic (.slice A1 is.length c1) X (by rw[hX];exact QQ _ _);obtain⟨⟨m0,m1,m2,m3,m4,m5,m6,m7⟩,aa⟩:=KB.out X aC;have aI:=hid aa;clear aC aa hX x0 x1 x2 x3
  go_wp2_with fail
  go_quiet (fail)
  go_wp2_with fail
  refine bodyPost_ret (v:=.tuple #[.slice none 0 0,.int .i64 7]) (by simp[results,Tryz.results65,go_sem]) rfl ?_;exact⟨_,rfl,Z8.nil_ 0 (QU _) none,TM aI.out⟩
 have aH:ZY l[a] (s':Int)=l[a].kids[s']:=by unfold ZY;rw[Int.toNat_natCast,List.getD_eq_getElem?_getD,List.getElem?_eq_getElem aV];rfl
 rw[aH];obtain⟨gk,ok,A2,c2,bZ,rfl,cZ,d0,d1,d2,d3,f1,f2,f3,f4,f5,aD,aG⟩:=Y5 ae ag aV;have bi:Z8 Z7 w S l[a].kids[s'].kids (.slice A2 l[a].kids[s'].kids.length c2):=⟨_,_,bZ,rfl,f4,f5,aD,aG⟩;have bI:gk<w.heap.size:=ai.out _ cZ;have KK:Hid (∀W,Below w.heap.size w W->W.cell? ⟨gk,ok+s'*4+3,none⟩=some (.slice A2 l[a].kids[s'].kids.length c2)):=fun W hW=>(hW.cell (p:=⟨gk,_,none⟩) bI).trans d3
 have j3:decide ((l[a].kids.length:Int)<=(s':Int))=false:=by rw[decide_eq_false_iff_not];omega
 have j4:(s':Int)<(l[a].kids.length:Int):=by omega
 have j5:¬l[a].kids.length<=s':=by omega
 have bG:l[a].kids[s'].kids.length<=1000000:=by
  have h1:=Yz l[a].kids[s'];have h2:=WV aV;have h3:=Xy l[a].kids (s'+1);have h4:ZW l[a]=1+ZT l[a].kids:=by cases l[a];rfl
  have h5:=WV bM;have h6:=Xy l (a+1);omega
 by_cases aA:(l[a].kids[s'].kids.length:Int)=n;rotate_left
 ·rw[if_pos (Or.inr (Or.inl aA))];have j6:((l[a].kids[s'].kids.length:Int)==n)=false:=by simpa using aA
  have j7:((l[a].kids[s'].kids.length:Int) != n)=true:=by simpa using aA
  generalize l[a].kids[s'].kids.length=m2 at *;generalize l[a]=item at *;obtain⟨ik,ix,ic,is⟩:=item;simp only[Z9.kind,Z9.text,Z9.cols,Z9.kids] at *;clear aX hb r0 r1 r2 aj aT bA bz bH aW aU av ay af ah b1 b2 b3 b4 b5 aF ak aM aL aK aJ au ax ae ag aS aR aQ aP e1 e2 e3 e4 e5 bn aZ d0 d1 d2 d3 f1 f2 f3 f4 f5 aD aG bi aH aA;go_enter Tryz.func65,Tryz.ntmps65
  go_upto_region 22 with fail
  obtain⟨X,hX⟩:∃X,W0.alloc (Obj.cells #[.int .i64 ik,.string ix,.int .i64 ic,.slice (some ⟨gk,ok,none⟩) is.length c1] 24)=X:=⟨_,rfl⟩;rw[hX];obtain⟨⟨y0,y1,y2,y3⟩,aC⟩:=KW.out ik ix ic (.slice (some ⟨gk,ok,none⟩) is.length c1) X (by rw[hX];exact QQ _ _);obtain⟨⟨m0,m1,m2,m3,m4,m5,m6,m7⟩,aa⟩:=KB.out X aC;have d3:=KK.out X aa;have aI:=hid aa;clear aC aa hX x0 x1 x2 x3
  go_wp2_with fail
  go_quiet (fail)
  go_wp2_with fail
  refine bodyPost_ret (v:=.tuple #[.slice none 0 0,.int .i64 7]) (by simp[results,Tryz.results65,go_sem]) rfl ?_;exact⟨_,rfl,Z8.nil_ 0 (QU _) none,TM aI.out⟩
 have hbb:b=a+1:=by omega
 have CF:Hid (∀W,Below w.heap.size w W->Calls Tryz.prog 105 #[.agg #[.int .i64 t0.kind,.string t0.text,.int .i64 t0.cols,.slice A0 t0.kids.length c0],.int .i64 s',.slice A2 l[a].kids[s'].kids.length c2] W (XO S W (Zp t0 s' l[a].kids[s'].kids))):=fun W hW =>
  zJr t0 s' l[a].kids[s'].kids A0 A2 c0 c2 W S (fun q hq=>QV (ai.out q hq) hW.size) aW aU bG (YH ak ai.out hW) (YH bi ai.out hW)
 have CE:Hid (∀W v,Below w.heap.size w W->Z8 Z7 W (Lt W.heap.size) (Zp t0 s' l[a].kids[s'].kids).kids v->Calls Tryz.prog 14 #[.agg #[.int .i64 l[a].kind,.string l[a].text,.int .i64 l[a].cols,.slice (some ⟨gk,ok,none⟩) l[a].kids.length c1],.agg #[.int .i64 (Zp t0 s' l[a].kids[s'].kids).kind,.string (Zp t0 s' l[a].kids[s'].kids).text,.int .i64 (Zp t0 s' l[a].kids[s'].kids).cols,v]] W fun e w'=>e=.returned (.bool (YB l[a] (Zp t0 s' l[a].kids[s'].kids)))/\Below W.heap.size W w'):=fun W v hW hv =>
  zLz l[a] (Zp t0 s' l[a].kids[s'].kids) W _ v (UM bn ai.out hW) hv
 have CS:Hid (∀W,Below w.heap.size w W->Calls Tryz.prog 104 #[.slice (some ⟨g,o,none⟩) l.length cap,.int .i64 (a:Int),.int .i64 ((a:Int)+1),.slice A2 l[a].kids[s'].kids.length c2] W (XN S W (Zk l a b l[a].kids[s'].kids))):=fun W hW =>
  RG l l[a].kids[s'].kids (a:Int) ((a:Int)+1) a b (some ⟨g,o,none⟩) A2 cap c2 W S (fun q hq=>QV (ai.out q hq) hW.size) rfl (by omega) (by omega) (by omega) cO bG (YH HL.out ai.out hW) (YH bi ai.out hW)
 have bU:(if l[a].kids.length<=(s':Int)\/(l[a].kids[s'].kids.length:Int)≠n\/YB l[a] (Zp t0 s' l[a].kids[s'].kids)=false then (([],7):List Z9×Int) else (Zk l a b l[a].kids[s'].kids,0))=if YB l[a] (Zp t0 s' l[a].kids[s'].kids)=false then ([],7) else (Zk l a b l[a].kids[s'].kids,0):=by
  by_cases hq:YB l[a] (Zp t0 s' l[a].kids[s'].kids)=false
  ·rw[if_pos (Or.inr (Or.inr hq)),if_pos hq]
  rw[if_neg hq,if_neg];rintro (h|h|h)
  ·omega
  ·exact h aA
  exact hq h
 rw[bU];have j6:((l[a].kids[s'].kids.length:Int)==n)=true:=by simpa using aA
 have j7:((l[a].kids[s'].kids.length:Int) != n)=false:=by simpa using aA
 obtain⟨q0,q1,q2,q3⟩:=KN.out W0 aO.out;generalize YB l[a] (Zp t0 s' l[a].kids[s'].kids)=bS at *;generalize Zp t0 s' l[a].kids[s'].kids=R at *;generalize Zk l a b l[a].kids[s'].kids=L at *;generalize l[a].kids[s'].kids.length=n2 at *;generalize l[a]=item at *;obtain⟨ik,ix,ic,is⟩:=item;obtain⟨tk,tx,tc,ts⟩:=t0;obtain⟨rk,rx,rc,rs⟩:=R;simp only[Z9.kind,Z9.text,Z9.cols,Z9.kids] at *;clear aX hb r0 r1 r2 aj aT bA bz bH aW aU av ay af ah b1 b2 b3 b4 b5 aF ak aM aL aK aJ au ax ae ag aS aR aQ aP e1 e2 e3 e4 e5 bn aZ d0 d1 d2 d3 f1 f2 f3 f4 f5 aD aG bi aH aA bU bG;cases bS
 all_goals
  go_enter Tryz.func65,Tryz.ntmps65
  go_upto_region 22 with fail
  obtain⟨X,hX⟩:∃X,W0.alloc (Obj.cells #[.int .i64 ik,.string ix,.int .i64 ic,.slice (some ⟨gk,ok,none⟩) is.length c1] 24)=X:=⟨_,rfl⟩;rw[hX];obtain⟨⟨y0,y1,y2,y3⟩,aC⟩:=KW.out ik ix ic (.slice (some ⟨gk,ok,none⟩) is.length c1) X (by rw[hX];exact QQ _ _);obtain⟨⟨m0,m1,m2,m3,m4,m5,m6,m7⟩,aa⟩:=KB.out X aC;have d3:=KK.out X aa;obtain⟨q0,q1,q2,q3⟩:=KN.out X aa;have aI:=hid aa;have KX:Hid (∀W,Below X.heap.size X W->ZL W W0.heap.size ik ix ic (.slice (some ⟨gk,ok,none⟩) is.length c1)/\Below W0.heap.size W0 W):=fun W hW=>KW.out ik ix ic _ W (by rw[hX];exact hW)
  clear aC aa hX x0 x1 x2 x3
  go_wp2_with fail
  go_region_held3 (fun w'=>(w'.cell? ⟨w.heap.size,3,none⟩=some (.int .i64 n)/\w'.cell? ⟨w.heap.size,4,none⟩=some (.slice (some ⟨g0,o0,none⟩) 1 cn)/\w'.cell? ⟨w.heap.size,5,none⟩=some (.int .i64 (s':Int)))/\(w'.cell? ⟨g0,o0,none⟩=some (.int .i64 tk)/\w'.cell? ⟨g0,o0+1,none⟩=some (.string tx)/\w'.cell? ⟨g0,o0+2,none⟩=some (.int .i64 tc)/\w'.cell? ⟨g0,o0+3,none⟩=some (.slice A0 ts.length c0)) /\
    (w'.cell? ⟨W0.heap.size,0,none⟩=some (.int .i64 ik)/\w'.cell? ⟨W0.heap.size,1,none⟩=some (.string ix)/\w'.cell? ⟨W0.heap.size,2,none⟩=some (.int .i64 ic)/\w'.cell? ⟨W0.heap.size,3,none⟩=some (.slice (some ⟨gk,ok,none⟩) is.length c1))/\w'.cell? ⟨gk,ok+s'*4+3,none⟩=some (.slice A2 n2 c2)) (go_keep) (first
   |(go_at_call 105;refine(CF.out _ (XF aI.out)).mono ?_;intro e w5 h5;obtain⟨v5,rfl,bB,bL⟩:∃v,e=.returned (.agg #[.int .i64 rk,.string rx,.int .i64 rc,v])/\Z8 Z7 w5 (NS S X.heap.size w5) rs v/\Below X.heap.size X w5:=by { obtain⟨v,e1,e2,e3⟩:=XO.ns h5 (b:=X.heap.size) (QT _);exact⟨v,e1,e2,Xt e3⟩ };obtain⟨A5,c5,rfl⟩:=bB.form;have bY:=hid bL;have bN:=hid (Zx aI.out bL);have dm:=hid (SY bB ai.out bN.out.size);clear bB bL;obtain⟨⟨y0,y1,y2,y3⟩,aB⟩:=KX.out w5 bY.out;obtain⟨⟨k0,k1,k2,k3,k4,k5,k6,k7⟩,aa⟩:=KB.out w5 aB;have d3:=KK.out w5 aa;obtain⟨q0,q1,q2,q3⟩:=KN.out w5 aa;clear aa aB)
   |(go_at_call 14;refine(CE.out _ _ bN.out dm.out).mono ?_;rintro e w6 ⟨rfl,bK⟩;have bW:=hid (Zx bY.out bK);have bu:=hid (Zx bN.out bK);clear bK;obtain⟨⟨y0,y1,y2,y3⟩,aB⟩:=KX.out w6 bW.out;obtain⟨⟨k0,k1,k2,k3,k4,k5,k6,k7⟩,aa⟩:=KB.out w6 aB;have d3:=KK.out w6 aa;obtain⟨q0,q1,q2,q3⟩:=KN.out w6 aa;clear aa aB))
  go_wp2_with fail
 ·refine bodyPost_ret (v:=.tuple #[.slice none 0 0,.int .i64 7]) (by simp[results,Tryz.results65,go_sem]) rfl ?_;exact⟨_,rfl,Z8.nil_ 0 (QU _) none,bu.out⟩
 go_region_held3 (fun w'=>(w'.cell? ⟨w.heap.size,2,none⟩=some (.int .i64 (a:Int))/\w'.cell? ⟨w.heap.size,5,none⟩=some (.int .i64 (s':Int)))/\w'.cell? ⟨W0.heap.size,3,none⟩=some (.slice (some ⟨gk,ok,none⟩) is.length c1)/\w'.cell? ⟨gk,ok+s'*4+3,none⟩=some (.slice A2 n2 c2)) (go_keep) (first
  |(go_at_call 104;refine(CS.out _ (XF bu.out)).mono ?_;rintro e w7 ⟨v7,rfl,bQ,bJ⟩;have dh:=hid bQ;have dn:=hid (Zx bu.out (Xt bJ));clear bQ;obtain⟨⟨y0,y1,y2,y3⟩,aB⟩:=KX.out w7 (Zx bW.out (Xt bJ));obtain⟨⟨k0,k1,k2,k3,k4,k5,k6,k7⟩,aa⟩:=KB.out w7 aB;have d3:=KK.out w7 aa;clear aa aB bJ))
 go_wp2_with fail
 refine bodyPost_ret (v:=.tuple #[v7,.int .i64 0]) (by simp[results,Tryz.results65,go_sem]) rfl ?_;exact⟨v7,rfl,dh.out.keep (fun _ _=>rfl) (fun q hq=>by rcases hq with hq|hq;exact .inl hq;exact .inr ⟨QP bu.out.size hq.1,hq.2⟩),dn.out⟩
