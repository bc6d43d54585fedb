/- T -/
import Derived.Test.YthpngeboknmllaaGreatQ5fc0
set_option linter.unusedVariables false
set_option linter.unusedSimpArgs false
set_option maxHeartbeats 8000000
set_option maxRecDepth 100000
namespace Go.Proofs.YthpngeboknmllaaGreat
open Go.RowKit
def ZY (t:Z9) (i:Int):Z9:=t.kids.getD i.toNat ZJ
def ZV:Z9->List Int->List Z9->Z9
 |t,i::k::p,l=>Y0 t i.toNat (Y0 (ZY t i) k.toNat (ZV (ZY (ZY t i) k) p l))
 |_,_,l=>Z6 l
def NS (S:Nat->Prop) (b:Nat) (w:World) (q:Nat):Prop:=S q\/b<=q/\q<w.heap.size
theorem NS.keep {S:Nat->Prop} {b:Nat} {w w':World} {l:List Z9} {v:Value} (h:Z8 Z7 w (NS S b w) l v) (hS:∀q,S q->q<w.heap.size) (hb:Below w.heap.size w w'):Z8 Z7 w' (NS S b w') l v:=newer h hS hb
theorem XO.ns {S:Nat->Prop} {b:Nat} {W w':World} {t:Z9} {e:Ending} (h:XO S W t e w') (hb:b<=W.heap.size):∃v,e=.returned (.agg #[.int .i64 t.kind,.string t.text,.int .i64 t.cols,v])/\Z8 Z7 w' (NS S b w') t.kids v/\Below W.heap.size W w':=by
 obtain⟨v,h1,h2,h3⟩:=h;exact⟨v,h1,h2.keep (fun _ _=>rfl) (fun q hq=>by rcases hq with hq|hq;exact .inl hq;exact .inr ⟨by omega,hq.2⟩),h3⟩
theorem XO.ns2 {S:Nat->Prop} {b:Nat} {W w':World} {t:Z9} {e:Ending} (h:XO (NS S b W) W t e w') (hb:b<=W.heap.size):∃v,e=.returned (.agg #[.int .i64 t.kind,.string t.text,.int .i64 t.cols,v])/\Z8 Z7 w' (NS S b w') t.kids v/\Below W.heap.size W w':=by
 obtain⟨v,h1,h2,h3⟩:=h;have:=h3.size;exact⟨v,h1,h2.keep (fun _ _=>rfl) (fun q hq=>by
  rcases hq with (hq|hq)|hq
  ·exact .inl hq
  ·exact .inr ⟨by omega,by omega⟩
  exact .inr ⟨by omega,hq.2⟩),h3⟩
theorem zKc (t:Z9) (p:List Int) (l:List Z9) (h:Zt t):Zt (ZV t p l):=by
 match p with
 |[]=>exact⟨by simp[ZV,Z6,Z9.kind,Z4],by simp[ZV,Z6,Z9.cols,Z4],QU _⟩
 |[_]=>exact⟨by simp[ZV,Z6,Z9.kind,Z4],by simp[ZV,Z6,Z9.cols,Z4],QU _⟩
 |i::k::p=>exact h
theorem zPz:(p:List Int)->∀(t:Z9) (l:List Z9) (A B Ap:Option Addr) (cap cb cp:Nat) (w:World) (S:Nat->Prop),(∀q,S q->q<w.heap.size)->(ZM t p).2=true->ZW t<=1000000->Zt t->l.length<=1000000->Z8 Z7 w S t.kids (.slice A t.kids.length cap)->Z8 Z7 w S l (.slice B l.length cb)->Z0 w (Lt w.heap.size) p (.slice Ap p.length cp) ->
  Calls Tryz.prog 66 #[.agg #[.int .i64 t.kind,.string t.text,.int .i64 t.cols,.slice A t.kids.length cap],.slice Ap p.length cp,.slice B l.length cb] w (XO S w (ZV t p l))
 |
  [],t,l,A,B,Ap,cap,cb,cp,w,S,hS,hf,hct,hok,hll,hv,hl,hp=>by
  obtain⟨tk,tx,tc,ts⟩:=t;simp only[Z9.kind,Z9.text,Z9.cols,Z9.kids,ZV] at *;generalize ai:(w.alloc (Obj.cells #[.int .i64 tk,.string tx,.int .i64 tc,.slice A ts.length cap] 24)).alloc (Obj.cells #[.int .i64 0,.string ⟨#[]⟩,.int .i64 0,.slice none 0 0] 24)=W0;have az:W0.heap.size=w.heap.size+1+1:=by rw[<-ai];simp
  have ae:Below w.heap.size w W0:=by rw[<-ai];exact Zq (ZX _ _) _
  have ay:ZL W0 (w.heap.size+1) 0 ⟨#[]⟩ 0 (.slice none 0 0)/\YJ W0 (w.heap.size+1):=by
   rw[<-ai];have h:=ZL.new (w.alloc (Obj.cells #[.int .i64 tk,.string tx,.int .i64 tc,.slice A ts.length cap] 24)) 0 ⟨#[]⟩ 0 (.slice none 0 0) 24;have h2:=YJ.new (w.alloc (Obj.cells #[.int .i64 tk,.string tx,.int .i64 tc,.slice A ts.length cap] 24)) #[.int .i64 0,.string ⟨#[]⟩,.int .i64 0,.slice none 0 0] 24;exact⟨by simpa using h,by simpa using h2⟩
  have KC:Hid (∀W,Below W0.heap.size W0 W->ZL W (w.heap.size+1) 0 ⟨#[]⟩ 0 (.slice none 0 0)/\YJ W (w.heap.size+1)/\Below w.heap.size w W):=fun W h=>⟨ay.1.below h (by omega),ay.2.below h (by omega),ae.trans (h.mono ae.size)⟩
  have HL:=hid hl;have aO:=hid hS;have aS:=hid az;clear hv hl hp hS hf hct hok az ae ay;go_enter Tryz.func66,Tryz.ntmps66
  go_wp2_with fail
  refine(UU _ _ _ _).mono ?_;rintro e w2 ⟨rfl,aL⟩;obtain⟨aC,⟨f0,f1,f2,f3⟩,aa⟩:=KC.out w2 aL;have af:=hid aC;obtain⟨r0,r1,r2,r3⟩:=aC;have bP:=hid aa;clear aL aa
  go_wp2_with fail
  generalize hZ:((((w2.setCell _ (.int .i64 1)).setCell _ (.string ⟨#[]⟩)).setCell _ (.int .i64 0)).setCell _ (.slice B l.length cb))=Z;obtain⟨⟨e0,e1,e2,e3⟩,aR,aN,aM,_,_⟩:=Xz (o:=0) af.out.1 af.out.2.1 af.out.2.2.1 af.out.2.2.2 _ _ _ _ hZ.symm;simp only[Nat.zero_add] at e1 e2 e3;have bg:=hid (aN w.heap.size w (by omega) bP.out);have aZ:=hid aM;clear hZ aR aN aM;refine bodyPost_ret (v:=.agg #[.int .i64 1,.string ⟨#[]⟩,.int .i64 0,.slice B l.length cb]) (by simp[results,Tryz.results66,go_sem,e0,e1,e2,e3]) rfl ?_;exact⟨_,rfl,HL.out.keep (fun q hq=>(aZ.out q (by have:=aO.out _ hq;omega)).trans (bP.out.cell (aO.out _ hq))) (fun q hq=>.inl hq),bg.out⟩
 |[_],t,l,A,B,Ap,cap,cb,cp,w,S,hS,hf,hct,hok,hll,hv,hl,hp=>by simp[ZM] at hf
 |
  i::k::p,t,l,A,B,Ap,cap,cb,cp,w,S,hS,hf,hct,hok,hll,hv,hl,hp=>by
  rw[ZM] at hf;split at hf
  case isFalse=>cases hf
  rename_i hi;split at hf
  case isFalse=>cases hf
  rename_i hk;obtain⟨hi1,aK⟩:=hi;obtain⟨hk1,aJ⟩:=hk;obtain⟨i',rfl⟩:∃i':Nat,i=i':=⟨i.toNat,by omega⟩;obtain⟨k',rfl⟩:∃k':Nat,k=k':=⟨k.toNat,by omega⟩;simp only[Int.toNat_natCast] at aK aJ hf;have aI:ZY t (i':Int)=t.kids[i']:=by unfold ZY;rw[Int.toNat_natCast,List.getD_eq_getElem?_getD,List.getElem?_eq_getElem aK];rfl
  have ah:ZY t.kids[i'] (k':Int)=t.kids[i'].kids[k']:=by unfold ZY;rw[Int.toNat_natCast,List.getD_eq_getElem?_getD,List.getElem?_eq_getElem aJ];rfl
  have aD:ZV t ((i':Int)::(k':Int)::p) l=Y0 t i' (Y0 t.kids[i'] k' (ZV t.kids[i'].kids[k'] p l)):=by rw[ZV,Int.toNat_natCast,Int.toNat_natCast,aI,ah]
  have hc1:ZW t.kids[i']<=1000000/\t.kids.length<=1000000:=by
   have h1:=WV aK;have h2:=Xy t.kids (i'+1);have h3:=Yz t;have h4:ZW t=1+ZT t.kids:=by cases t;rfl
   constructor<;>omega
  have aX:ZW t.kids[i'].kids[k']<=1000000/\t.kids[i'].kids.length<=1000000:=by
   have h1:=WV aJ;have h2:=Xy t.kids[i'].kids (k'+1);have h3:=Yz t.kids[i'];have h4:ZW t.kids[i']=1+ZT t.kids[i'].kids:=by cases t.kids[i'];rfl
   constructor<;>omega
  have df:=hv;obtain⟨_,_,rs0,hq,_,_,aB,aH⟩:=df;cases hq;obtain⟨g,o,A1,c1,bR,rfl,hg,t0,t1,t2,t3,b1,b2,b3,b4,b5,ak,ax⟩:=Y5 aB aH aK;obtain⟨gk,ok,A2,c2,bQ,rfl,bB,d0,d1,d2,d3,a1,a2,a3,a4,a5,aA,aG⟩:=Y5 ak ax aJ;have bK:Z8 Z7 w S t.kids[i'].kids (.slice (some ⟨gk,ok,none⟩) t.kids[i'].kids.length c1):=⟨_,_,bR,rfl,b4,b5,ak,ax⟩;have bJ:Z8 Z7 w S t.kids[i'].kids[k'].kids (.slice A2 t.kids[i'].kids[k'].kids.length c2):=⟨_,_,bQ,rfl,a4,a5,aA,aG⟩;have aF:Zt t.kids[i']:=⟨b1,b2,b3⟩;have au:Zt t.kids[i'].kids[k']:=⟨a1,a2,a3⟩;have dw:=hp;obtain⟨_,_,ws,hq,dn,dm,aj,av⟩:=dw;cases hq;obtain⟨gp,op,rfl,bA,_,p0⟩:=YG aj av (k:=0) (by simp);obtain⟨g2,o2,hq,_,_,p1⟩:=YG aj av (k:=1) (by simp);cases hq;simp only[List.getElem_cons_zero,List.getElem_cons_succ,Nat.add_zero] at p0 p1;obtain⟨A3,dh,hcut⟩:=Wn ZF Tryz.underlying25 XA (some ⟨gp,op,none⟩) ((i':Int)::(k':Int)::p).length cp 2 2 rfl (by simp);have aQ:=hcut _ _ _ hp;simp only[List.drop_succ_cons,List.drop_zero] at aQ;rw[show ((i':Int)::(k':Int)::p).length-2=p.length by simp] at dh aQ;have C1:Hid (∀W,Below w.heap.size w W->Calls Tryz.prog 66 #[.agg #[.int .i64 t.kids[i'].kids[k'].kind,.string t.kids[i'].kids[k'].text,.int .i64 t.kids[i'].kids[k'].cols,.slice A2 t.kids[i'].kids[k'].kids.length c2],.slice A3 p.length (cp-2),.slice B l.length cb] W (XO S W (ZV t.kids[i'].kids[k'] p l))):=fun W hW =>
   zPz p t.kids[i'].kids[k'] l A2 B A3 c2 cb (cp-2) W S (fun q hq=>QV (hS q hq) hW.size) hf aX.1 au hll (bJ.keep (fun q hq=>hW.cell (hS _ hq)) (fun _ h=>h)) (hl.keep (fun q hq=>hW.cell (hS _ hq)) (fun _ h=>h)) (aQ.below hW hW.size)
  have ag:=zKc t.kids[i'].kids[k'] p l au;have C2:Hid (∀W b v',Below w.heap.size w W->Z8 Z7 W (NS S b W) (ZV t.kids[i'].kids[k'] p l).kids v'->∀B' c',v'=.slice B' (ZV t.kids[i'].kids[k'] p l).kids.length c'->Calls Tryz.prog 80 #[.agg #[.int .i64 t.kids[i'].kind,.string t.kids[i'].text,.int .i64 t.kids[i'].cols,.slice (some ⟨gk,ok,none⟩) t.kids[i'].kids.length c1],.int .i64 k',.agg #[.int .i64 (ZV t.kids[i'].kids[k'] p l).kind,.string (ZV t.kids[i'].kids[k'] p l).text,.int .i64 (ZV t.kids[i'].kids[k'] p l).cols,v']] W (XO (NS S b W) W (Y0 t.kids[i'] k' (ZV t.kids[i'].kids[k'] p l)))):=by
   intro W b v' hW hr B' c' aT;subst aT;exact Ry t.kids[i'] (ZV t.kids[i'].kids[k'] p l) k' _ B' c1 c' W _ (fun q hq=>by
    have hz:=hW.size;rcases hq with hq|hq
    ·have:=hS q hq;omega
    exact hq.2) aJ aX.2 ag (bK.keep (fun q hq=>hW.cell (hS _ hq)) (fun q hq=>.inl hq)) hr
  have C3:Hid (∀W b v',Below w.heap.size w W->Z8 Z7 W (NS S b W) (Y0 t.kids[i'] k' (ZV t.kids[i'].kids[k'] p l)).kids v'->∀B' c',v'=.slice B' (Y0 t.kids[i'] k' (ZV t.kids[i'].kids[k'] p l)).kids.length c'->Calls Tryz.prog 80 #[.agg #[.int .i64 t.kind,.string t.text,.int .i64 t.cols,.slice (some ⟨g,o,none⟩) t.kids.length cap],.int .i64 i',.agg #[.int .i64 t.kids[i'].kind,.string t.kids[i'].text,.int .i64 t.kids[i'].cols,v']] W (XO (NS S b W) W (ZV t ((i':Int)::(k':Int)::p) l))):=by
   intro W b v' hW hr B' c' aT;subst aT;rw[aD];exact Ry t (Y0 t.kids[i'] k' (ZV t.kids[i'].kids[k'] p l)) i' _ B' cap c' W _ (fun q hq=>by
    have hz:=hW.size;rcases hq with hq|hq
    ·have:=hS q hq;omega
    exact hq.2) aK hc1.2 aF (hv.keep (fun q hq=>hW.cell (hS _ hq)) (fun q hq=>.inl hq)) hr
  have KO:Hid (∀W,Below w.heap.size w W->(W.cell? ⟨g,o+i'*4,none⟩=some (.int .i64 t.kids[i'].kind)/\W.cell? ⟨g,o+i'*4+1,none⟩=some (.string t.kids[i'].text)/\W.cell? ⟨g,o+i'*4+2,none⟩=some (.int .i64 t.kids[i'].cols)/\W.cell? ⟨g,o+i'*4+3,none⟩=some (.slice (some ⟨gk,ok,none⟩) t.kids[i'].kids.length c1)) /\
    (W.cell? ⟨gk,ok+k'*4,none⟩=some (.int .i64 t.kids[i'].kids[k'].kind)/\W.cell? ⟨gk,ok+k'*4+1,none⟩=some (.string t.kids[i'].kids[k'].text)/\W.cell? ⟨gk,ok+k'*4+2,none⟩=some (.int .i64 t.kids[i'].kids[k'].cols)/\W.cell? ⟨gk,ok+k'*4+3,none⟩=some (.slice A2 t.kids[i'].kids[k'].kids.length c2)) /\
    (W.cell? ⟨gp,op,none⟩=some (.int .i64 i')/\W.cell? ⟨gp,op+1,none⟩=some (.int .i64 k'))):=fun W hW =>
   have h1:g<w.heap.size:=hS _ hg;have h2:gk<w.heap.size:=hS _ bB;have h3:gp<w.heap.size:=bA
   ⟨⟨(hW.cell (p:=⟨g,_,none⟩) h1).trans t0,(hW.cell (p:=⟨g,_,none⟩) h1).trans t1,(hW.cell (p:=⟨g,_,none⟩) h1).trans t2,(hW.cell (p:=⟨g,_,none⟩) h1).trans t3⟩,⟨(hW.cell (p:=⟨gk,_,none⟩) h2).trans d0,(hW.cell (p:=⟨gk,_,none⟩) h2).trans d1,(hW.cell (p:=⟨gk,_,none⟩) h2).trans d2,(hW.cell (p:=⟨gk,_,none⟩) h2).trans d3⟩,(hW.cell (p:=⟨gp,_,none⟩) h3).trans p0,(hW.cell (p:=⟨gp,_,none⟩) h3).trans p1⟩
  have j0:(0:Int)<=(i':Int):=by omega
  have j1:(i':Int)<(t.kids.length:Int):=by omega
  have j2:(0:Int)<=(k':Int):=by omega
  have j3:(k':Int)<(t.kids[i'].kids.length:Int):=by omega
  have j4:(0:Int)<(((i':Int)::(k':Int)::p).length:Int):=by simp;omega
  have j5:(1:Int)<(((i':Int)::(k':Int)::p).length:Int):=by simp;omega
  have j7:0<((i':Int)::(k':Int)::p).length:=by simp
  have j8:1<((i':Int)::(k':Int)::p).length:=by simp
  have j6:(((((i':Int)::(k':Int)::p).length:Int)==0)=false):=by simp;omega
  have aO:=hid hS;have bz:(ZV t ((i':Int)::(k':Int)::p) l).kind=t.kind/\(ZV t ((i':Int)::(k':Int)::p) l).text=t.text/\(ZV t ((i':Int)::(k':Int)::p) l).cols=t.cols:=⟨rfl,rfl,rfl⟩;have HRK:=hid bz;generalize ZV t ((i':Int)::(k':Int)::p) l=R3 at *;generalize ZV t.kids[i'].kids[k'] p l=R1 at *;have aP:Hid ((Y0 t.kids[i'] k' R1).kind=t.kids[i'].kind/\(Y0 t.kids[i'] k' R1).text=t.kids[i'].text/\(Y0 t.kids[i'] k' R1).cols=t.kids[i'].cols):=⟨rfl,rfl,rfl⟩;generalize Y0 t.kids[i'] k' R1=R2 at *;generalize t.kids[i'].kids[k']=cZ at *;generalize t.kids[i']=item at *;generalize ((i':Int)::(k':Int)::p).length=m at *;clear hv hl hp hf hct hok hll aB aH ak ax aA aG bK bJ aj av hcut aQ hc1 aX aI ah aD aF au ag hS b1 b2 b3 b4 b5 a1 a2 a3 a4 a5 dn dm bz;obtain⟨tk,tx,tc,ts⟩:=t;obtain⟨ik,ix,ic,is⟩:=item;obtain⟨kk,kx,kc,ks⟩:=cZ;obtain⟨cK,cu,cO,cB⟩:=R1;obtain⟨bY,bU,bZ,bW⟩:=R2;obtain⟨rk,rx,rc,rs⟩:=R3;simp only[Z9.kind,Z9.text,Z9.cols,Z9.kids] at *;obtain⟨q1,q2,q3⟩:=aP.out;subst bY bU bZ;clear aP;generalize ai:(w.alloc (Obj.cells #[.int .i64 tk,.string tx,.int .i64 tc,.slice (some ⟨g,o,none⟩) ts.length cap] 24)).alloc (Obj.cells #[.int .i64 0,.string ⟨#[]⟩,.int .i64 0,.slice none 0 0] 24)=W0;have az:W0.heap.size=w.heap.size+1+1:=by rw[<-ai];simp
  have ae:Below w.heap.size w W0:=by rw[<-ai];exact Zq (ZX _ _) _
  have bC:ZL W0 w.heap.size tk tx tc (.slice (some ⟨g,o,none⟩) ts.length cap):=by
   rw[<-ai];exact(ZL.new w _ _ _ _ _).below (ZX _ _) (by simp)
  have ay:ZL W0 (w.heap.size+1) 0 ⟨#[]⟩ 0 (.slice none 0 0)/\YJ W0 (w.heap.size+1):=by
   rw[<-ai];have h:=ZL.new (w.alloc (Obj.cells #[.int .i64 tk,.string tx,.int .i64 tc,.slice (some ⟨g,o,none⟩) ts.length cap] 24)) 0 ⟨#[]⟩ 0 (.slice none 0 0) 24;have h2:=YJ.new (w.alloc (Obj.cells #[.int .i64 tk,.string tx,.int .i64 tc,.slice (some ⟨g,o,none⟩) ts.length cap] 24)) #[.int .i64 0,.string ⟨#[]⟩,.int .i64 0,.slice none 0 0] 24;exact⟨by simpa using h,by simpa using h2⟩
  have KC:Hid (∀W,Below W0.heap.size W0 W->ZL W w.heap.size tk tx tc (.slice (some ⟨g,o,none⟩) ts.length cap)/\ZL W (w.heap.size+1) 0 ⟨#[]⟩ 0 (.slice none 0 0)/\YJ W (w.heap.size+1)/\Below w.heap.size w W):=fun W h=>⟨bC.below h (by omega),ay.1.below h (by omega),ay.2.below h (by omega),ae.trans (h.mono ae.size)⟩
  have aS:=hid az;have dD:=hid ae;obtain⟨⟨t0,t1,t2,t3⟩,⟨d0,d1,d2,d3⟩,p0,p1⟩:=KO.out W0 ae;obtain⟨m0,m1,m2,m3⟩:=bC;clear az ae ay;go_enter Tryz.func66,Tryz.ntmps66
  go_wp2_with fail
  go_region_held3 (fun w'=>w'.cell? ⟨w.heap.size,3,none⟩=some (.slice (some ⟨g,o,none⟩) ts.length cap)/\w'.cell? ⟨gp,op,none⟩=some (.int .i64 i')/\w'.cell? ⟨g,o+i'*4,none⟩=some (.int .i64 ik)/\w'.cell? ⟨g,o+i'*4+1,none⟩=some (.string ix)/\w'.cell? ⟨g,o+i'*4+2,none⟩=some (.int .i64 ic)/\w'.cell? ⟨g,o+i'*4+3,none⟩=some (.slice (some ⟨gk,ok,none⟩) is.length c1)) (go_keep) (fail)
  have bi:Hid (Below w.heap.size w (W0.alloc (Obj.cells #[.int .i64 ik,.string ix,.int .i64 ic,.slice (some ⟨gk,ok,none⟩) is.length c1] 24)).drew):=XF (Zq dD.out _);obtain⟨X,hX⟩:∃X,(W0.alloc (Obj.cells #[.int .i64 ik,.string ix,.int .i64 ic,.slice (some ⟨gk,ok,none⟩) is.length c1] 24)).drew=X:=⟨_,rfl⟩;have bD:ZL X W0.heap.size ik ix ic (.slice (some ⟨gk,ok,none⟩) is.length c1):=by rw[<-hX];exact ZL.new _ _ _ _ _ _
  have aY:Below W0.heap.size W0 X:=by rw[<-hX];exact XF (ZX _ _)
  have bI:X.heap.size=w.heap.size+1+1+1:=by rw[<-hX];have:=aS.out;simp[World.drew];omega
  rw[hX] at bi ⊢;clear hX t0 t1 t2 t3 d0 d1 d2 d3 p0 p1 m0 m1 m2 m3;have KX:Hid (∀W,Below X.heap.size X W->ZL W w.heap.size tk tx tc (.slice (some ⟨g,o,none⟩) ts.length cap)/\ZL W W0.heap.size ik ix ic (.slice (some ⟨gk,ok,none⟩) is.length c1)/\ZL W (w.heap.size+1) 0 ⟨#[]⟩ 0 (.slice none 0 0)/\YJ W (w.heap.size+1)/\Below w.heap.size w W):=fun W hW=>by
   obtain⟨h1,h2,h3,h4⟩:=KC.out W (aY.trans (hW.mono aY.size));exact⟨h1,bD.below hW (by have:=aS.out;omega),h2,h3,h4⟩
  have bM:=hid bI;obtain⟨⟨t0,t1,t2,t3⟩,⟨d0,d1,d2,d3⟩,p0,p1⟩:=KO.out X bi.out;obtain⟨⟨m0,m1,m2,m3⟩,⟨n0,n1,n2,n3⟩,_⟩:=KX.out X (QQ _ _);clear bI bD aY;have ne1:¬(w.heap.size+1=gp):=by have h9:gp<w.heap.size:=bA;omega
  have ne2:¬(w.heap.size+1=gk):=by have h9:=aO.out _ bB;omega
  have ne3:¬(w.heap.size+1=W0.heap.size):=by have h9:=aS.out;omega
  go_wp2_with fail
  go_region_held3 (fun w'=>(w'.cell? ⟨w.heap.size,0,none⟩=some (.int .i64 tk)/\w'.cell? ⟨w.heap.size,1,none⟩=some (.string tx)/\w'.cell? ⟨w.heap.size,2,none⟩=some (.int .i64 tc)/\w'.cell? ⟨w.heap.size,3,none⟩=some (.slice (some ⟨g,o,none⟩) ts.length cap))/\w'.cell? ⟨gp,op,none⟩=some (.int .i64 i')/\w'.cell? ⟨gp,op+1,none⟩=some (.int .i64 k') /\
    (w'.cell? ⟨W0.heap.size,0,none⟩=some (.int .i64 ik)/\w'.cell? ⟨W0.heap.size,1,none⟩=some (.string ix)/\w'.cell? ⟨W0.heap.size,2,none⟩=some (.int .i64 ic)/\w'.cell? ⟨W0.heap.size,3,none⟩=some (.slice (some ⟨gk,ok,none⟩) is.length c1)) /\
    (w'.cell? ⟨gk,ok+k'*4,none⟩=some (.int .i64 kk)/\w'.cell? ⟨gk,ok+k'*4+1,none⟩=some (.string kx)/\w'.cell? ⟨gk,ok+k'*4+2,none⟩=some (.int .i64 kc)/\w'.cell? ⟨gk,ok+k'*4+3,none⟩=some (.slice A2 ks.length c2))) (go_keep) (first
   |(go_at_call 66;refine(C1.out _ (XF bi.out)).mono ?_;intro e w1 h1;obtain⟨v1,rfl,aW,bH⟩:∃v,e=.returned (.agg #[.int .i64 cK,.string cu,.int .i64 cO,v])/\Z8 Z7 w1 (NS S X.heap.size w1) cB v/\Below X.heap.size X w1:=by { obtain⟨v,e1,e2,e3⟩:=XO.ns h1 (b:=X.heap.size) (QT _);exact⟨v,e1,e2,Xt e3⟩ };obtain⟨A4,c4,rfl⟩:=aW.form;have bN:=hid aW;have bu:=hid bH;clear bH aW;obtain⟨⟨k0,k1,k2,k3⟩,⟨n0,n1,n2,n3⟩,_,_,aa⟩:=KX.out w1 bu.out;have dB:=hid aa;obtain⟨⟨t0,t1,t2,t3⟩,⟨d0,d1,d2,d3⟩,p0,p1⟩:=KO.out w1 aa;clear aa)
   |(go_at_call 80;refine(C2.out _ X.heap.size _ dB.out bN.out _ _ rfl).mono ?_;intro e w2 h2;obtain⟨v2,rfl,aV,aL⟩:∃v,e=.returned (.agg #[.int .i64 ik,.string ix,.int .i64 ic,v])/\Z8 Z7 w2 (NS S X.heap.size w2) bW v/\Below w1.heap.size w1 w2:=XO.ns2 h2 bu.out.size;obtain⟨A5,c5,rfl⟩:=aV.form;have aP:=hid aV;have bn:=hid (Zx bu.out aL);clear aL aV bN;obtain⟨⟨k0,k1,k2,k3⟩,⟨n0,n1,n2,n3⟩,_,_,aa⟩:=KX.out w2 bn.out;have dA:=hid aa;obtain⟨⟨t0,t1,t2,t3⟩,⟨d0,d1,d2,d3⟩,p0,p1⟩:=KO.out w2 aa;clear aa)
   |(go_at_call 80;refine(C3.out _ X.heap.size _ dA.out aP.out _ _ rfl).mono ?_;intro e w3 h3;obtain⟨v3,rfl,aU,bG⟩:∃v,e=.returned (.agg #[.int .i64 rk,.string rx,.int .i64 rc,v])/\Z8 Z7 w3 (NS S X.heap.size w3) rs v/\Below w2.heap.size w2 w3:=XO.ns2 h3 bn.out.size;obtain⟨A6,c6,rfl⟩:=aU.form;have dx:=hid aU;have dC:=hid (Zx bn.out bG);clear bG aU aP;obtain⟨⟨k0,k1,k2,k3⟩,⟨n0,n1,n2,n3⟩,aC,⟨f0,f1,f2,f3⟩,aa⟩:=KX.out w3 dC.out;have af:=hid aC;obtain⟨r0,r1,r2,r3⟩:=aC;have dz:=hid aa;obtain⟨⟨t0,t1,t2,t3⟩,⟨d0,d1,d2,d3⟩,p0,p1⟩:=KO.out w3 aa;clear aa))
  all_goals
   go_wp2_with fail
   generalize hZ:((((w3.setCell _ (.int .i64 rk)).setCell _ (.string rx)).setCell _ (.int .i64 rc)).setCell _ (.slice A6 rs.length c6))=Z;obtain⟨⟨e0,e1,e2,e3⟩,aR,aN,aM,_,_⟩:=Xz (o:=0) af.out.1 af.out.2.1 af.out.2.2.1 af.out.2.2.2 _ _ _ _ hZ.symm;simp only[Nat.zero_add] at e1 e2 e3;have bg:=hid (aN w.heap.size w (by omega) dz.out);have aZ:=hid aM;have bL:=hid aR;clear hZ aR aN aM;refine bodyPost_ret (v:=.agg #[.int .i64 rk,.string rx,.int .i64 rc,.slice A6 rs.length c6]) (by simp[results,Tryz.results66,go_sem,e0,e1,e2,e3]) rfl ?_;have bM:=bM.out;have bL:=bL.out;refine⟨_,rfl,dx.out.keep (fun q hq=>aZ.out q ?_) (fun q hq=>?_),bg.out⟩
   ·rcases hq with hq|hq
    ·have:=aO.out _ hq;omega
    omega
   rcases hq with hq|hq
   ·exact .inl hq
   exact .inr ⟨by omega,by omega⟩
def Yf (l:List Z9) (slot:Int):Bool:=decide (l.length=1)&&(ZN (Z6 l)&&(decide (0<=slot)&&(decide (slot<(l.headD ZJ).kids.length)&&decide ((ZY (l.headD ZJ) slot).kids.length=0))))
theorem zKw (l:List Z9) (slot:Int) (A:Option Addr) (cap:Nat) (w:World) (hv:Z8 Z7 w (Lt w.heap.size) l (.slice A l.length cap)) (ak:ZT l<=1000000) :
  Calls Tryz.prog 102 #[.slice A l.length cap,.int .i64 slot] w fun e w'=>e=.returned (.bool (Yf l slot))/\Below w.heap.size w w':=by
 by_cases h1:l.length=1;rotate_left
 ·have hf:Yf l slot=false:=by unfold Yf;simp[h1]
  rw[hf];have i0:((l.length:Int)==1)=false:=by simp;omega
  clear hv ak hf;go_enter Tryz.func102,Tryz.ntmps102
  go_wp2_with fail
  go_ret;exact⟨rfl,QQ _ _⟩
 obtain⟨t,rfl⟩:∃t,l=[t]:=List.length_eq_one_iff.1 h1;clear h1;have C1:=zFi [t] A cap w hv (by omega);have au:=hid C1;clear C1;simp only[List.length_cons,List.length_nil,Nat.zero_add] at hv au ⊢;have aB:=hv;obtain⟨_,_,rs0,hq,_,_,ag,ah⟩:=aB;cases hq;obtain⟨g,o,A1,c1,rs1,rfl,hg,t0,t1,t2,t3,b1,b2,b3,b4,b5,ae,af⟩:=Y5 ag ah (k:=0) (by simp);simp only[Nat.zero_mul,Nat.add_zero,List.getElem_cons_zero] at t0 t1 t2 t3 b1 b2 b3 b4 b5 ae af;have aC:g<w.heap.size:=hg;have aA:Hid (∀W,Below w.heap.size w W->W.cell? ⟨g,o+3,none⟩=some (.slice A1 t.kids.length c1)):=fun W hW=>(hW.cell (p:=⟨g,_,none⟩) aC).trans t3
 have hS:Yf [t] slot=(ZN (Z6 [t])&&(decide (0<=slot)&&(decide (slot<t.kids.length)&&decide ((ZY t slot).kids.length=0)))):=by unfold Yf;simp
 rw[hS];generalize ZN (Z6 [t])=bv at *;cases bv
 ·clear hv ak ag ah ae af t0 t1 t2 t3 hS;go_enter Tryz.func102,Tryz.ntmps102
  go_wp2_with fail
  refine au.out.mono ?_;rintro e w1 ⟨rfl,aa⟩;have ai:=hid aa;clear aa
  go_wp2_with fail
  go_ret;exact⟨rfl,ai.out⟩
 by_cases h2:0<=slot;rotate_left
 ·have i1:decide (0<=slot)=false:=by simpa using h2
  rw[i1];clear hv ak ag ah ae af t0 t1 t2 t3 hS;go_enter Tryz.func102,Tryz.ntmps102
  go_wp2_with fail
  refine au.out.mono ?_;rintro e w1 ⟨rfl,aa⟩;have ai:=hid aa;clear aa
  go_wp2_with fail
  go_ret;exact⟨rfl,ai.out⟩
 have i1:decide (0<=slot)=true:=by simpa using h2
 by_cases h3:slot<t.kids.length;rotate_left
 ·have i2:decide (slot<(t.kids.length:Int))=false:=by simpa using h3
  rw[i1,i2];clear hv ak ag ah ae af t0 t1 t2 t3 hS;go_enter Tryz.func102,Tryz.ntmps102
  go_wp2_with fail
  refine au.out.mono ?_;rintro e w1 ⟨rfl,aa⟩;have ai:=hid aa;have t3:=aA.out w1 aa;clear aa
  go_wp2_with fail
  go_ret;exact⟨rfl,ai.out⟩
 have i2:decide (slot<(t.kids.length:Int))=true:=by simpa using h3
 obtain⟨s',az⟩:∃s':Nat,slot=s':=⟨slot.toNat,by omega⟩;have h4:s'<t.kids.length:=by omega
 obtain⟨g2,o2,A2,c2,rs2,rfl,aD,d0,d1,d2,d3,a1,a2,a3,a4,a5,av,ax⟩:=Y5 ae af h4;have ay:g2<w.heap.size:=aD;have aF:Hid (∀W,Below w.heap.size w W->W.cell? ⟨g2,o2+s'*4+3,none⟩=some (.slice A2 t.kids[s'].kids.length c2)):=fun W hW=>(hW.cell (p:=⟨g2,_,none⟩) ay).trans d3
 have aj:ZY t slot=t.kids[s']:=by rw[az];unfold ZY;rw[Int.toNat_natCast,List.getD_eq_getElem?_getD,List.getElem?_eq_getElem h4];rfl
 rw[aj,i1,i2];have HF:Hid ((((t.kids[s'].kids.length:Nat):Int)==0)=decide (t.kids[s'].kids.length=0)):=by
  show _=_;rw[Bool.eq_iff_iff];simp
 subst az;generalize t.kids[s'].kids.length=n2 at *;have hf:=HF.out;generalize decide (n2=0)=b4 at *;have i3:(s':Int)<(t.kids.length:Int):=by omega
 have i4:(0:Int)<=(s':Int):=by omega
 clear hv ak ag ah ae af av ax t0 t1 t2 t3 d0 d1 d2 d3 hS aj HF;cases b4
 all_goals
  go_enter Tryz.func102,Tryz.ntmps102
  go_wp2_with fail
  refine au.out.mono ?_;rintro e w1 ⟨rfl,aa⟩;have ai:=hid aa;have t3:=aA.out w1 aa;have d3:=aF.out w1 aa;clear aa
  go_wp2_with fail
  go_ret;exact⟨rfl,ai.out⟩
