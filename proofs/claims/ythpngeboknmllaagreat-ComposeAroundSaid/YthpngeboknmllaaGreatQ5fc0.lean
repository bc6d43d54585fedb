/- T -/
import Derived.Test.YthpngeboknmllaaGreatQ3bf0
set_option linter.unusedVariables false
set_option linter.unusedSimpArgs false
set_option maxHeartbeats 2000000
set_option maxRecDepth 100000
namespace Go.Proofs.YthpngeboknmllaaGreat
open Go.RowKit
def ZJ:Z9:=.mk 0 ⟨#[]⟩ 0 []
def ZM:Z9->List Int->Z9×Bool
 |
  t,i::k::p =>
  if hi:0<=i/\i.toNat<t.kids.length then
   if hk:0<=k/\k.toNat<(t.kids[i.toNat]'hi.2).kids.length then ZM ((t.kids[i.toNat]'hi.2).kids[k.toNat]'hk.2) p else (ZJ,false)
  else (ZJ,false)
 |t,[]=>(t,true)
 |t,[_]=>(t,false)
def zOe (S:Nat->Prop) (w:World) (r:Z9×Bool) (e:Ending) (w':World):Prop :=
 ∃v,e=.returned (.tuple #[.agg #[.int .i64 r.1.kind,.string r.1.text,.int .i64 r.1.cols,v],.bool r.2])/\Z8 Z7 w' S r.1.kids v/\Below w.heap.size w w'
theorem zM4 (t:Z9) (p:List Int) (h:p.length<2):ZM t p=(t,decide (p.length=0)):=by
 match p,h with
 |[],_=>rfl
 |[_],_=>rfl
theorem four {w:World} {b:Nat} {x0 x1 x2 x3:Value} (d0:w.cell? ⟨b,0,none⟩=some x0) (d1:w.cell? ⟨b,1,none⟩=some x1) (d2:w.cell? ⟨b,2,none⟩=some x2) (d3:w.cell? ⟨b,3,none⟩=some x3) (y0 y1 y2 y3:Value) {W:World}
  (hW:W=(((w.setCell ⟨b,0,none⟩ y0).setCell ⟨b,1,none⟩ y1).setCell ⟨b,2,none⟩ y2).setCell ⟨b,3,none⟩ y3) :
  (W.cell? ⟨b,0,none⟩=some y0/\W.cell? ⟨b,1,none⟩=some y1/\W.cell? ⟨b,2,none⟩=some y2/\W.cell? ⟨b,3,none⟩=some y3)/\W.heap.size=w.heap.size/\(∀B a,B<=b->Below B a w->Below B a W) /\
  (∀p:Addr,p.block≠b->W.cell? p=w.cell? p)/\(∀p:Addr,W.frozen? p=w.frozen? p):=by
 have o:∀(i j:Nat),i≠j->(⟨b,i,none⟩:Addr)≠⟨b,j,none⟩:=fun i j h e=>h (by injection e)
 have f:∀(p:Addr) (j:Nat),p.block≠b->(⟨b,j,none⟩:Addr)≠p:=fun p j h e=>h (by rw[<-e])
 subst hW;refine⟨⟨?_,?_,?_,?_⟩,by simp[World.setCell],fun B a hB h=>(((h.setCell hB _).setCell hB _).setCell hB _).setCell hB _,fun p hp=>?_,fun p=>?_⟩
 ·rw[World.cell?_setCell_other (h:=o 3 0 (by decide)),World.cell?_setCell_other (h:=o 2 0 (by decide)),World.cell?_setCell_other (h:=o 1 0 (by decide)),World.cell?_setCell_same (h:=d0)]
 ·rw[World.cell?_setCell_other (h:=o 3 1 (by decide)),World.cell?_setCell_other (h:=o 2 1 (by decide))];exact World.cell?_setCell_same _ _ _ (by rw[World.cell?_setCell_other (h:=o 0 1 (by decide))];exact d1)
 ·rw[World.cell?_setCell_other (h:=o 3 2 (by decide))];exact World.cell?_setCell_same _ _ _ (by rw[World.cell?_setCell_other (h:=o 1 2 (by decide)),World.cell?_setCell_other (h:=o 0 2 (by decide))];exact d2)
 ·exact World.cell?_setCell_same _ _ _ (by rw[World.cell?_setCell_other (h:=o 2 3 (by decide)),World.cell?_setCell_other (h:=o 1 3 (by decide)),World.cell?_setCell_other (h:=o 0 3 (by decide))];exact d3)
 ·rw[World.cell?_setCell_other (h:=f p 3 hp),World.cell?_setCell_other (h:=f p 2 hp),World.cell?_setCell_other (h:=f p 1 hp),World.cell?_setCell_other (h:=f p 0 hp)]
 rw[World.frozen?_setCell,World.frozen?_setCell,World.frozen?_setCell,World.frozen?_setCell]
theorem Tw {B:Nat} {a w:World} (h:Below B a w) (n:Nat):Below B a (w.drewN n):=⟨h.os,h.tape,h.output,h.size,h.block⟩
theorem YD {w:World} {p:Addr} {v:Value} {n:Nat} (h:w.cell? p=some v):(w.drewN n).cell? p=some v:=h
theorem Vp (t:Z9) (p:List Int) (w:World) (a b:Value) (S:Nat->Prop) (hS:∀k,S k->k<w.heap.size) (ha:Z8 Z7 w S t.kids a) (hb:Z0 w (Lt w.heap.size) p b) :
  Calls Tryz.prog 103 #[.agg #[.int .i64 t.kind,.string t.text,.int .i64 t.cols,a],b] w (zOe S w (ZM t p)):=by
 have HA:=hid ha;have ag:=hid hS;clear hS;have HB:=hid hb;obtain⟨A,cap,_,rfl,_,_,_,_⟩:=ha;obtain⟨A',cap',_,rfl,_,_,_,_⟩:=hb;rename_i h1 h2 h3 h4 h5 h6 h7 h8;clear h1 h2 h3 h4 h5 h6 h7 h8;go_enter Tryz.func103,Tryz.ntmps103
 go_wp2_with fail
 go_loopw [1] (fun c wr=>Below w.heap.size w wr/\w.heap.size+1<wr.heap.size/\∃(t':Z9) (p':List Int) (v':Value),Z0 w (Lt w.heap.size) p' c/\Z8 Z7 w S t'.kids v'/\ZM t' p'=ZM t p/\p'.length<=p.length /\
  (wr.cell? ⟨w.heap.size,0,none⟩=some (.int .i64 t'.kind)/\wr.cell? ⟨w.heap.size,1,none⟩=some (.string t'.text)/\wr.cell? ⟨w.heap.size,2,none⟩=some (.int .i64 t'.cols)/\wr.cell? ⟨w.heap.size,3,none⟩=some v') /\
  (wr.frozen? ⟨w.heap.size,0,none⟩=false/\wr.frozen? ⟨w.heap.size,1,none⟩=false/\wr.frozen? ⟨w.heap.size,2,none⟩=false/\wr.frozen? ⟨w.heap.size,3,none⟩=false) /\
  (wr.frozen? ⟨w.heap.size+1,0,none⟩=false/\wr.frozen? ⟨w.heap.size+1,1,none⟩=false/\wr.frozen? ⟨w.heap.size+1,2,none⟩=false/\wr.frozen? ⟨w.heap.size+1,3,none⟩=false) /\
  (wr.cell? ⟨w.heap.size+1,0,none⟩=some (.int .i64 0)/\wr.cell? ⟨w.heap.size+1,1,none⟩=some (.string ⟨#[]⟩)/\wr.cell? ⟨w.heap.size+1,2,none⟩=some (.int .i64 0)/\wr.cell? ⟨w.heap.size+1,3,none⟩=some (.slice none 0 0)))
  (fun c _=>match c with|.slice _ n _=>n|_=>0)
 case atStart =>
  refine⟨?_,?_,t,p,_,HB.out,HA.out,rfl,QT _,⟨?_,?_,?_,?_⟩,⟨?_,?_,?_,?_⟩,⟨?_,?_,?_,?_⟩,?_,?_,?_,?_⟩
  ·exact((QQ _ _).alloc (QT _) _).alloc (by simp) _
  ·simp
  all_goals first|(simp[go_sem];done)|skip
 obtain⟨hb,hz,t',p',v',hp,hv,hf,aC,⟨c0,c1,c2,c3⟩,⟨e0,e1,e2,e3⟩,⟨f0,f1,f2,f3⟩,d0,d1,d2,d3⟩:=hrel;have HP:=hid hp;have HV:=hid hv;have HF:=hid hf;have ai:=hid hb;clear hf hb;obtain⟨A1,n1,_,rfl,_,_,_,_⟩:=hp;obtain⟨A2,n2,_,rfl,_,_,_,_⟩:=hv;rename_i h1 h2 h3 h4 h5 h6 h7 h8;by_cases hs:p'.length<2
 ·have HS:=hid (zM4 t' p' hs);have i1:¬(2:Int)<=(p'.length:Int):=by omega
  have aM:w.heap.size<wr.heap.size:=by omega
  clear h1 h2 h3 h4 h5 h6 h7 h8 hz;by_cases ah:p'.length=0
  ·have i2:((p'.length:Int)==0)=true:=by simp[ah]
   have i3:decide ((p'.length:Int)=0)=true:=by simp[ah]
   have aa:Hid (ZM t p=(t',true)):=by show _=_;rw[<-HF.out,HS.out];simp[ah]
   clear ah
   go_wp2_with fail
   generalize hW:(((wr.setCell _ (.int .i64 t'.kind)).setCell _ (.string t'.text)).setCell _ (.int .i64 t'.cols)).setCell _ (.slice A2 t'.kids.length n2)=W;obtain⟨⟨q0,q1,q2,q3⟩,qz,qb,_,_⟩:=four d0 d1 d2 d3 _ _ _ _ hW.symm;have ae:=qb _ _ (by simp) ai.out;clear hW d0 d1 d2 d3;refine bodyPost_ret (v:=.tuple #[.agg #[.int .i64 t'.kind,.string t'.text,.int .i64 t'.cols,.slice A2 t'.kids.length n2],.bool true]) (by simp[results,Tryz.results103,go_sem,q0,q1,q2,q3]) rfl ?_;exact⟨.slice A2 t'.kids.length n2,by rw[aa.out],by rw[aa.out];exact HV.out.keep (fun p hp=>ae.cell (ag.out _ hp)) (fun _ h=>h),ae⟩
  have i2:((p'.length:Int)==0)=false:=by simp;intro h;simp[h] at ah
  have i3:decide ((p'.length:Int)=0)=false:=by simp;intro h;simp[h] at ah
  have aa:Hid (ZM t p=(t',false)):=by show _=_;rw[<-HF.out,HS.out,decide_eq_false ah]
  clear ah
  go_wp2_with fail
  generalize hW:(((wr.setCell _ (.int .i64 t'.kind)).setCell _ (.string t'.text)).setCell _ (.int .i64 t'.cols)).setCell _ (.slice A2 t'.kids.length n2)=W;obtain⟨⟨q0,q1,q2,q3⟩,qz,qb,_,_⟩:=four d0 d1 d2 d3 _ _ _ _ hW.symm;have ae:=qb _ _ (by simp) ai.out;clear hW d0 d1 d2 d3;refine bodyPost_ret (v:=.tuple #[.agg #[.int .i64 t'.kind,.string t'.text,.int .i64 t'.cols,.slice A2 t'.kids.length n2],.bool false]) (by simp[results,Tryz.results103,go_sem,q0,q1,q2,q3]) rfl ?_;exact⟨.slice A2 t'.kids.length n2,by rw[aa.out],by rw[aa.out];exact HV.out.keep (fun p hp=>ae.cell (ag.out _ hp)) (fun _ h=>h),ae⟩
 obtain⟨i,k,q,rfl⟩:∃i k q,p'=i::k::q:=by
  match p',hs with
  |i::k::q,_=>exact⟨i,k,q,rfl⟩
  |[_],hs=>simp at hs
  |[],hs=>simp at hs
 have i1:(2:Int)<=((i::k::q).length:Int):=by simp;omega
 have aM:w.heap.size<wr.heap.size:=by omega
 obtain⟨g,o,rfl,hg,hi,a0⟩:=YG h2 h3 (k:=0) (by simp);obtain⟨g',o',aP,hg',hk,a1⟩:=YG h2 h3 (k:=1) (by simp);cases aP;simp only[List.getElem_cons_zero,List.getElem_cons_succ,Nat.add_zero] at a0 a1 hi hk
 replace a0:=((bcell ai.out).1 _ _ hg).trans a0
 replace a1:=((bcell ai.out).1 _ _ hg).trans a1
 have aQ:g<w.heap.size:=hg;by_cases hx:0<=i/\i.toNat<t'.kids.length
 ·obtain⟨hx1,az⟩:=hx;obtain⟨ig,io,B1,b1,bs1,aS,ax,t0,t1,t2,t3,_,_,_,aK,aJ,aA,aB⟩:=Y5 h7 h8 az;cases aS;obtain⟨i',rfl⟩:∃i':Nat,i=i':=⟨i.toNat,by omega⟩;simp only[Int.toNat_natCast] at *;have j0:decide ((i':Int)<0)=false:=by simp
  have j1:¬(i':Int)<0:=by omega
  have j2:decide ((t'.kids.length:Int)<=i')=false:=by simp;omega
  have j3:(i':Int)<(t'.kids.length:Int):=by omega
  have af:=(bcell ai.out).1
  replace t0:=(af _ _ (ag.out _ ax)).trans t0
  replace t1:=(af _ _ (ag.out _ ax)).trans t1
  replace t2:=(af _ _ (ag.out _ ax)).trans t2
  replace t3:=(af _ _ (ag.out _ ax)).trans t3
  clear h1 h2 h3 h5 h6 h7 h8 af;obtain⟨A3,aN,hcut⟩:=Wn ZF Tryz.underlying25 XA (some ⟨g,o,none⟩) (((i':Nat):Int)::k::q).length n1 2 2 rfl (by simp);have aD:=hid (hcut _ _ _ HP.out);clear hcut;have aG:(((i':Nat):Int)::k::q).length-2=q.length:=by simp
  rw[aG] at aN aD;simp only[List.drop_succ_cons,List.drop_zero] at aD;have aO:q.length+2<=p.length:=aC;clear aC aG HP;generalize hm:(((i':Nat):Int)::k::q).length=m at *;have m0:(0:Int)<(m:Int):=by rw[<-hm];simp;omega
  have m2:0<m:=by omega
  have m1:1<m:=by omega
  have m3:(1:Int)<(m:Int):=by omega
  have aW:Hid (q.length<m):=by show _<_;rw[<-hm];simp;omega
  clear hm
  go_wp2_with fail
  go_quiet (fail)
  go_wp2_with fail
  go_region
  generalize hW:((((World.drewN wr _).setCell _ (.int .i64 t'.kids[i'].kind)).setCell _ (.string t'.kids[i'].text)).setCell _ (.int .i64 t'.kids[i'].cols)).setCell _ (.slice B1 t'.kids[i'].kids.length b1)=W1;obtain⟨⟨q0,q1,q2,q3⟩,qz,qb,qf,qr⟩:=four (YD c0) (YD c1) (YD c2) (YD c3) _ _ _ _ hW.symm;have ay:=hid (qb _ _ (QT _) (Tw ai.out _));have qa:W1.cell? ⟨g,o+1,none⟩=some (.int .i64 k):=(qf _ (Nat.ne_of_lt aQ)).trans a1;have r0:=(qf ⟨w.heap.size+1,0,none⟩ (Nat.succ_ne_self _)).trans (YD d0);have r1:=(qf ⟨w.heap.size+1,1,none⟩ (Nat.succ_ne_self _)).trans (YD d1);have r2:=(qf ⟨w.heap.size+1,2,none⟩ (Nat.succ_ne_self _)).trans (YD d2);have r3:=(qf ⟨w.heap.size+1,3,none⟩ (Nat.succ_ne_self _)).trans (YD d3)
  replace e0:=(qr ⟨w.heap.size,0,none⟩).trans e0
  replace e1:=(qr ⟨w.heap.size,1,none⟩).trans e1
  replace e2:=(qr ⟨w.heap.size,2,none⟩).trans e2
  replace e3:=(qr ⟨w.heap.size,3,none⟩).trans e3
  replace f0:=(qr ⟨w.heap.size+1,0,none⟩).trans f0
  replace f1:=(qr ⟨w.heap.size+1,1,none⟩).trans f1
  replace f2:=(qr ⟨w.heap.size+1,2,none⟩).trans f2
  replace f3:=(qr ⟨w.heap.size+1,3,none⟩).trans f3
  have z1:w.heap.size+1<W1.heap.size:=by rw[qz];exact hz
  clear hW qf qr qb c0 c1 c2 c3 d0 d1 d2 d3 a0 a1;clear j0 j1 j2;by_cases hy:0<=k/\k.toNat<t'.kids[i'].kids.length
  ·obtain⟨hy1,aF⟩:=hy;obtain⟨jg,jo,B2,b2,aU,aR,av,t4,t5,t6,t7,_,_,_,aI,aH,aj,ak⟩:=Y5 aA aB aF;cases aR;obtain⟨k',rfl⟩:∃k':Nat,k=k':=⟨k.toNat,by omega⟩;simp only[Int.toNat_natCast] at *;have j0:decide ((k':Int)<0)=false:=by simp
   have j1:¬(k':Int)<0:=by omega
   have j3:(k':Int)<(t'.kids[i'].kids.length:Int):=by omega
   have j2:decide ((t'.kids[i'].kids.length:Int)<=k')=false:=by simp;omega
   have aa:Hid (ZM t'.kids[i'].kids[k'] q=ZM t p):=by show _=_;rw[<-HF.out,ZM,dif_pos ⟨by omega,by simpa using az⟩,dif_pos ⟨by omega,by simpa using aF⟩];rfl
   have aV:Hid (Z8 Z7 w S t'.kids[i'].kids[k'].kids (.slice B2 t'.kids[i'].kids[k'].kids.length b2)):=⟨B2,b2,aU,rfl,aI,aH,aj,ak⟩;have af:=(bcell ay.out).1
   replace t4:=(af _ _ (ag.out _ av)).trans t4
   replace t5:=(af _ _ (ag.out _ av)).trans t5
   replace t6:=(af _ _ (ag.out _ av)).trans t6
   replace t7:=(af _ _ (ag.out _ av)).trans t7
   clear af aI aH aj ak aA aB aK aJ t0 t1 t2 t3 HF HV
   go_wp2_with fail
   go_quiet (fail)
   go_wp2_with fail
   go_region
   go_wp2_with fail
   generalize aT:((((World.drewN W1 _).setCell _ (.int .i64 t'.kids[i'].kids[k'].kind)).setCell _ (.string t'.kids[i'].kids[k'].text)).setCell _ (.int .i64 t'.kids[i'].kids[k'].cols)).setCell _ (.slice B2 t'.kids[i'].kids[k'].kids.length b2)=W2;obtain⟨⟨s0,s1,s2,s3⟩,sz,sb,sf,sr⟩:=four (YD q0) (YD q1) (YD q2) (YD q3) _ _ _ _ aT.symm;have aX:=hid (sb _ _ (QT _) (Tw ay.out _));have au:∀j,(⟨w.heap.size+1,j,none⟩:Addr).block≠w.heap.size:=fun j=>Nat.succ_ne_self _
   exact⟨⟨aX.out,by rw[sz];exact z1,_,q,_,aD.out,aV.out,aa.out,by omega,⟨s0,s1,s2,s3⟩,⟨(sr _).trans e0,(sr _).trans e1,(sr _).trans e2,(sr _).trans e3⟩,⟨(sr _).trans f0,(sr _).trans f1,(sr _).trans f2,(sr _).trans f3⟩,(sf _ (au 0)).trans (YD r0),(sf _ (au 1)).trans (YD r1),(sf _ (au 2)).trans (YD r2),(sf _ (au 3)).trans (YD r3)⟩,aW.out⟩
  have aa:Hid (ZM t p=(ZJ,false)):=by show _=_;rw[<-HF.out,ZM,dif_pos ⟨by omega,by simpa using az⟩,dif_neg (by simpa using hy)]
  have i2:¬(0<=k)\/(0<=k/\(t'.kids[i'].kids.length:Int)<=k):=by omega
  clear hy aA aB aK aJ;rcases i2 with i2|⟨i2,i3⟩
  ·have j0:decide (k<0)=true:=by simp;omega
   have j1:k<0:=by omega
   go_wp2_with fail
   go_quiet (fail)
   go_wp2_with fail
   generalize hW:((((World.drewN W1 _).setCell _ (.int .i64 0)).setCell _ (.string ⟨#[]⟩)).setCell _ (.int .i64 0)).setCell _ (.slice none 0 0)=W;obtain⟨⟨s0,s1,s2,s3⟩,aL,qb,_,_⟩:=four (YD r0) (YD r1) (YD r2) (YD r3) _ _ _ _ hW.symm;have ae:=qb _ _ (by simp) (Tw ay.out _);clear hW;refine bodyPost_ret (v:=.tuple #[.agg #[.int .i64 0,.string ⟨#[]⟩,.int .i64 0,.slice none 0 0],.bool false]) (by simp[results,Tryz.results103,go_sem,s0,s1,s2,s3]) rfl ?_;exact⟨.slice none 0 0,by rw[aa.out];rfl,by rw[aa.out];exact Z8.nil_ 0 (QU _) none,ae⟩
  have j0:decide (k<0)=false:=by simp;omega
  have j1:¬k<0:=by omega
  have j2:decide ((t'.kids[i'].kids.length:Int)<=k)=true:=by simp;omega
  go_wp2_with fail
  go_quiet (fail)
  go_wp2_with fail
  generalize hW:((((World.drewN W1 _).setCell _ (.int .i64 0)).setCell _ (.string ⟨#[]⟩)).setCell _ (.int .i64 0)).setCell _ (.slice none 0 0)=W;obtain⟨⟨s0,s1,s2,s3⟩,aL,qb,_,_⟩:=four (YD r0) (YD r1) (YD r2) (YD r3) _ _ _ _ hW.symm;have ae:=qb _ _ (by simp) (Tw ay.out _);clear hW;refine bodyPost_ret (v:=.tuple #[.agg #[.int .i64 0,.string ⟨#[]⟩,.int .i64 0,.slice none 0 0],.bool false]) (by simp[results,Tryz.results103,go_sem,s0,s1,s2,s3]) rfl ?_;exact⟨.slice none 0 0,by rw[aa.out];rfl,by rw[aa.out];exact Z8.nil_ 0 (QU _) none,ae⟩
 have aa:Hid (ZM t p=(ZJ,false)):=by show _=_;rw[<-HF.out,ZM,dif_neg hx]
 have i2:¬(0<=i)\/(0<=i/\(t'.kids.length:Int)<=i):=by omega
 clear h1 h2 h3 h4 h5 h6 h7 h8 hx HP HF aC;generalize hm:(i::k::q).length=m at *;have m0:(0:Int)<(m:Int):=by rw[<-hm];simp;omega
 have m2:0<m:=by omega
 clear hm;rcases i2 with i2|⟨i2,i3⟩
 ·have j0:decide (i<0)=true:=by simp;omega
  have j1:i<0:=by omega
  go_wp2_with fail
  go_quiet (fail)
  go_wp2_with fail
  generalize hW:((((World.drewN wr _).setCell _ (.int .i64 0)).setCell _ (.string ⟨#[]⟩)).setCell _ (.int .i64 0)).setCell _ (.slice none 0 0)=W;obtain⟨⟨q0,q1,q2,q3⟩,qz,qb,_,_⟩:=four (YD d0) (YD d1) (YD d2) (YD d3) _ _ _ _ hW.symm;have ae:=qb _ _ (by simp) (Tw ai.out _);clear hW d0 d1 d2 d3;refine bodyPost_ret (v:=.tuple #[.agg #[.int .i64 0,.string ⟨#[]⟩,.int .i64 0,.slice none 0 0],.bool false]) (by simp[results,Tryz.results103,go_sem,q0,q1,q2,q3]) rfl ?_;exact⟨.slice none 0 0,by rw[aa.out];rfl,by rw[aa.out];exact Z8.nil_ 0 (QU _) none,ae⟩
 have j0:decide (i<0)=false:=by simp;omega
 have j1:¬i<0:=by omega
 have j2:decide ((t'.kids.length:Int)<=i)=true:=by simp;omega
 go_wp2_with fail
 go_quiet (fail)
 go_wp2_with fail
 generalize hW:((((World.drewN wr _).setCell _ (.int .i64 0)).setCell _ (.string ⟨#[]⟩)).setCell _ (.int .i64 0)).setCell _ (.slice none 0 0)=W;obtain⟨⟨q0,q1,q2,q3⟩,qz,qb,_,_⟩:=four (YD d0) (YD d1) (YD d2) (YD d3) _ _ _ _ hW.symm;have ae:=qb _ _ (by simp) (Tw ai.out _);clear hW d0 d1 d2 d3;refine bodyPost_ret (v:=.tuple #[.agg #[.int .i64 0,.string ⟨#[]⟩,.int .i64 0,.slice none 0 0],.bool false]) (by simp[results,Tryz.results103,go_sem,q0,q1,q2,q3]) rfl ?_;exact⟨.slice none 0 0,by rw[aa.out];rfl,by rw[aa.out];exact Z8.nil_ 0 (QU _) none,ae⟩
theorem XP (w:World) (o:Obj):Below w.heap.size w (w.alloc o):=ZX w o
theorem WU {W X:World} (h:Below W.heap.size W X) (o:Obj):Below W.heap.size W (X.alloc o):=Zq h o
theorem Zc (W:World) (arr:Array Value) (T:TypeId) (b o:Nat) (hb:b=W.heap.size):(W.alloc (.cells arr T)).cell? ⟨b,o,none⟩=arr[o]?:=ZU W arr T b o hb
theorem YY (W:World) (arr:Array Value) (T:TypeId) (b o:Nat) (hb:b=W.heap.size):(W.alloc (.cells arr T)).frozen? ⟨b,o,none⟩=false:=XI W arr T b o hb
theorem Yi (W:World) (B:Obj) (b o:Nat) (x:Option Value) (hb:b<W.heap.size) (h:W.cell? ⟨b,o,none⟩=x):(W.alloc B).cell? ⟨b,o,none⟩=x:=Ro W B b o x hb h
theorem XZ (W:World) (arr:Array Value) (T:TypeId) (B:Obj) (b o:Nat) (hb:b=W.heap.size):((W.alloc (.cells arr T)).alloc B).cell? ⟨b,o,none⟩=arr[o]?:=by
 rw[(XP (W.alloc (.cells arr T)) B).cell (by simp;omega)];exact Zc W arr T b o hb
def ZR (t:Z9) (p:List Int):Z9×Int:=if ZN t=false then (ZJ,1) else if (ZM t p).2=false then (ZJ,8) else ((ZM t p).1,0)
def U1 (S:Nat->Prop) (w:World) (k:Int) (x:ByteArray) (c:Int) (ts:List Z9) (er:Int) (e:Ending) (w':World):Prop :=
 ∃v,e=.returned (.tuple #[.agg #[.int .i64 k,.string x,.int .i64 c,v],.int .i64 er])/\Z8 Z7 w' S ts v/\Below w.heap.size w w'
theorem zF0 (t:Z9) (p:List Int) (A Ap:Option Addr) (cap cp:Nat) (w:World) (S:Nat->Prop) (hS:∀k,S k->k<w.heap.size) (hv:Z8 Z7 w S t.kids (.slice A t.kids.length cap)) (aL:t.text.size<=maxLen) (aP:ZW t<=900000) (hp:Z0 w (Lt w.heap.size) p (.slice Ap p.length cp)) :
  Calls Tryz.prog 64 #[.agg #[.int .i64 t.kind,.string t.text,.int .i64 t.cols,.slice A t.kids.length cap],.slice Ap p.length cp] w (U1 S w (ZR t p).1.kind (ZR t p).1.text (ZR t p).1.cols (ZR t p).1.kids (ZR t p).2):=by
 have C1:Hid (∀W,Below w.heap.size w W->Calls Tryz.prog 29 #[.agg #[.int .i64 t.kind,.string t.text,.int .i64 t.cols,.slice A t.kids.length cap]] W fun e w'=>e=.returned (.bool (ZN t))/\Below W.heap.size W w'):=fun W hW=>Tm t A cap W (hv.keep (fun q hq=>hW.cell (hS _ hq)) (fun q hq=>QV (hS _ hq) hW.size)) aL (by omega)
 have C2:Hid (∀W,Below w.heap.size w W->Calls Tryz.prog 103 #[.agg #[.int .i64 t.kind,.string t.text,.int .i64 t.cols,.slice A t.kids.length cap],.slice Ap p.length cp] W (zOe S W (ZM t p))):=fun W hW=>Vp t p W _ _ S (fun k h=>QV (hS _ h) hW.size) (hv.keep (fun q hq=>hW.cell (hS _ hq)) (fun _ h=>h)) (hp.below hW hW.size)
 have HR:Hid (ZR t p=if ZN t=false then (ZJ,1) else if (ZM t p).2=false then (ZJ,8) else ((ZM t p).1,0)):=rfl;generalize ZR t p=r at *;generalize ZM t p=f at *;generalize ZN t=b1 at *;obtain⟨tk,tx,tc,ts⟩:=t;obtain⟨ft,b2⟩:=f;obtain⟨fk,fx,fc,fs⟩:=ft;obtain⟨⟨rk,rx,rc,rt⟩,re⟩:=r;simp only[Z9.kind,Z9.text,Z9.cols,Z9.kids] at *;have aN:=hid hS;clear hS hv aL aP hp;generalize aI:(w.alloc (Obj.cells #[.int .i64 tk,.string tx,.int .i64 tc,.slice A ts.length cap] 24)).alloc (.cells #[.int .i64 0,.string ⟨#[]⟩,.int .i64 0,.slice none 0 0] 24)=W0;have KB:Hid (∀W,Below W0.heap.size W0 W->(W.cell? ⟨w.heap.size,0,none⟩=some (.int .i64 tk)/\W.cell? ⟨w.heap.size,1,none⟩=some (.string tx)/\W.cell? ⟨w.heap.size,2,none⟩=some (.int .i64 tc)/\W.cell? ⟨w.heap.size,3,none⟩=some (.slice A ts.length cap)) /\
   (W.cell? ⟨w.heap.size+1,0,none⟩=some (.int .i64 0)/\W.cell? ⟨w.heap.size+1,1,none⟩=some (.string ⟨#[]⟩)/\W.cell? ⟨w.heap.size+1,2,none⟩=some (.int .i64 0)/\W.cell? ⟨w.heap.size+1,3,none⟩=some (.slice none 0 0)) /\
   (W.frozen? ⟨w.heap.size+1,0,none⟩=false/\W.frozen? ⟨w.heap.size+1,1,none⟩=false/\W.frozen? ⟨w.heap.size+1,2,none⟩=false/\W.frozen? ⟨w.heap.size+1,3,none⟩=false)/\Below w.heap.size w W/\w.heap.size+1<W.heap.size):=by
  intro W hW;have hz:W0.heap.size=w.heap.size+1+1:=by rw[<-aI];simp
  have hc:=(bcell hW).1;have hf:=(bcell hW).2;have aM:Below w.heap.size w W0:=by rw[<-aI];exact WU (XP _ _) _
  refine⟨⟨(hc _ _ (by omega)).trans ?_,(hc _ _ (by omega)).trans ?_,(hc _ _ (by omega)).trans ?_,(hc _ _ (by omega)).trans ?_⟩,⟨(hc _ _ (by omega)).trans ?_,(hc _ _ (by omega)).trans ?_,(hc _ _ (by omega)).trans ?_,(hc _ _ (by omega)).trans ?_⟩,⟨(hf _ _ (by omega)).trans ?_,(hf _ _ (by omega)).trans ?_,(hf _ _ (by omega)).trans ?_,(hf _ _ (by omega)).trans ?_⟩,aM.trans (hW.mono aM.size),by have:=hW.size;omega⟩
  all_goals (rw[<-aI];first|exact XZ _ _ _ _ _ _ rfl|exact Zc _ _ _ _ _ (by simp)|exact YY _ _ _ _ _ (by simp))
 rcases b1 with _|_
 ·clear C2;obtain⟨⟨m0,m1,m2,m3⟩,⟨c0,c1,c2,c3⟩,⟨f0,f1,f2,f3⟩,ae,aC⟩:=KB.out W0 (QQ _ _);have ak:=hid ae;clear ae;go_enter Tryz.func64,Tryz.ntmps64
  go_wp2_with fail
  refine(C1.out _ ak.out).mono ?_;rintro e w1 ⟨rfl,ah⟩;clear m0 m1 m2 m3 c0 c1 c2 c3 f0 f1 f2 f3 aC;obtain⟨⟨m0,m1,m2,m3⟩,aD,⟨f0,f1,f2,f3⟩,aa,aK⟩:=KB.out w1 ah;have af:=hid ah;have aj:=hid aa;obtain⟨c0,c1,c2,c3⟩:=aD;have aA:=hid (QS c0 (QS c1 (QS c2 c3)));clear ah aa
  go_wp2_with fail
  generalize hW:(((w1.setCell _ (.int .i64 0)).setCell _ (.string ⟨#[]⟩)).setCell _ (.int .i64 0)).setCell _ (.slice none 0 0)=W;obtain⟨⟨r0,r1,r2,r3⟩,rz,rb,ro,_⟩:=four aA.out.1 aA.out.2.1 aA.out.2.2.1 aA.out.2.2.2 _ _ _ _ hW.symm;have aB:=hid (rb w.heap.size w (by omega) aj.out);have aJ:Hid (∀q:Addr,q.block≠w.heap.size+1->W.cell? q=(w1).cell? q):=ro;clear hW ro rb;refine bodyPost_ret (v:=.tuple #[.agg #[.int .i64 0,.string ⟨#[]⟩,.int .i64 0,.slice none 0 0],.int .i64 1]) (by simp[results,Tryz.results64,go_sem,r0,r1,r2,r3]) rfl ?_;have h:=HR.out;simp[ZJ] at h;obtain⟨⟨h1,h2,h3,h4⟩,h5⟩:=h;rw[h1,h2,h3,h4,h5];exact⟨_,rfl,Z8.nil_ 0 (QU _) none,aB.out⟩
 rcases b2 with _|_
 ·obtain⟨⟨m0,m1,m2,m3⟩,⟨c0,c1,c2,c3⟩,⟨f0,f1,f2,f3⟩,ae,aC⟩:=KB.out W0 (QQ _ _);have ak:=hid ae;clear ae;go_enter Tryz.func64,Tryz.ntmps64
  go_wp2_with fail
  refine(C1.out _ ak.out).mono ?_;rintro e w1 ⟨rfl,ah⟩;clear m0 m1 m2 m3 c0 c1 c2 c3 f0 f1 f2 f3 aC;obtain⟨⟨m0,m1,m2,m3⟩,aD,⟨f0,f1,f2,f3⟩,aa,aK⟩:=KB.out w1 ah;have af:=hid ah;have aj:=hid aa;obtain⟨c0,c1,c2,c3⟩:=aD;have aA:=hid (QS c0 (QS c1 (QS c2 c3)));clear ah aa
  go_wp2_with fail
  refine(C2.out _ aj.out).mono ?_;intro e w2 h;obtain⟨v2,rfl,ax,aF⟩:∃v,e=.returned (.tuple #[.agg #[.int .i64 fk,.string fx,.int .i64 fc,v],.bool false])/\Z8 Z7 w2 S fs v/\Below w1.heap.size w1 w2:=h;obtain⟨A2,ai,rfl⟩:=ax.form;have aO:=hid ax;clear m0 m1 m2 m3 c0 c1 c2 c3 f0 f1 f2 f3 ax;have az:=hid (af.out.trans (aF.mono af.out.size));obtain⟨⟨m0,m1,m2,m3⟩,aH,⟨f0,f1,f2,f3⟩,ag,aG⟩:=KB.out w2 az.out;have ay:=hid ag;obtain⟨c0,c1,c2,c3⟩:=aH;have av:=hid (QS c0 (QS c1 (QS c2 c3)));clear aF ag
  go_wp2_with fail
  generalize hW:(((w2.setCell _ (.int .i64 0)).setCell _ (.string ⟨#[]⟩)).setCell _ (.int .i64 0)).setCell _ (.slice none 0 0)=W;obtain⟨⟨r0,r1,r2,r3⟩,rz,rb,ro,_⟩:=four av.out.1 av.out.2.1 av.out.2.2.1 av.out.2.2.2 _ _ _ _ hW.symm;have aB:=hid (rb w.heap.size w (by omega) ay.out);have aJ:Hid (∀q:Addr,q.block≠w.heap.size+1->W.cell? q=w2.cell? q):=ro;have au:w.heap.size+1<W.heap.size:=by rw[rz];exact aG
  replace r0:=Yi W (Obj.cells #[.int .i64 fk,.string fx,.int .i64 fc,.slice A2 fs.length ai] 24) _ _ _ au r0
  replace r1:=Yi W (Obj.cells #[.int .i64 fk,.string fx,.int .i64 fc,.slice A2 fs.length ai] 24) _ _ _ au r1
  replace r2:=Yi W (Obj.cells #[.int .i64 fk,.string fx,.int .i64 fc,.slice A2 fs.length ai] 24) _ _ _ au r2
  replace r3:=Yi W (Obj.cells #[.int .i64 fk,.string fx,.int .i64 fc,.slice A2 fs.length ai] 24) _ _ _ au r3
  clear hW ro rb;refine bodyPost_ret (v:=.tuple #[.agg #[.int .i64 0,.string ⟨#[]⟩,.int .i64 0,.slice none 0 0],.int .i64 8]) (by simp[results,Tryz.results64,go_sem,r0,r1,r2,r3]) rfl ?_;have h:=HR.out;simp[ZJ] at h;obtain⟨⟨h1,h2,h3,h4⟩,h5⟩:=h;rw[h1,h2,h3,h4,h5];exact⟨_,rfl,Z8.nil_ 0 (QU _) none,WU aB.out _⟩
 obtain⟨⟨m0,m1,m2,m3⟩,⟨c0,c1,c2,c3⟩,⟨f0,f1,f2,f3⟩,ae,aC⟩:=KB.out W0 (QQ _ _);have ak:=hid ae;clear ae;go_enter Tryz.func64,Tryz.ntmps64
 go_wp2_with fail
 refine(C1.out _ ak.out).mono ?_;rintro e w1 ⟨rfl,ah⟩;clear m0 m1 m2 m3 c0 c1 c2 c3 f0 f1 f2 f3 aC;obtain⟨⟨m0,m1,m2,m3⟩,aD,⟨f0,f1,f2,f3⟩,aa,aK⟩:=KB.out w1 ah;have af:=hid ah;have aj:=hid aa;obtain⟨c0,c1,c2,c3⟩:=aD;have aA:=hid (QS c0 (QS c1 (QS c2 c3)));clear ah aa
 go_wp2_with fail
 refine(C2.out _ aj.out).mono ?_;intro e w2 h;obtain⟨v2,rfl,ax,aF⟩:∃v,e=.returned (.tuple #[.agg #[.int .i64 fk,.string fx,.int .i64 fc,v],.bool true])/\Z8 Z7 w2 S fs v/\Below w1.heap.size w1 w2:=h;obtain⟨A2,ai,rfl⟩:=ax.form;have aO:=hid ax;clear m0 m1 m2 m3 c0 c1 c2 c3 f0 f1 f2 f3 ax;have az:=hid (af.out.trans (aF.mono af.out.size));obtain⟨⟨m0,m1,m2,m3⟩,aH,⟨f0,f1,f2,f3⟩,ag,aG⟩:=KB.out w2 az.out;have ay:=hid ag;obtain⟨c0,c1,c2,c3⟩:=aH;have av:=hid (QS c0 (QS c1 (QS c2 c3)));clear aF ag
 go_wp2_with fail
 generalize hW:(((w2.setCell _ (.int .i64 fk)).setCell _ (.string fx)).setCell _ (.int .i64 fc)).setCell _ (.slice A2 fs.length ai)=W;obtain⟨⟨r0,r1,r2,r3⟩,rz,rb,ro,_⟩:=four av.out.1 av.out.2.1 av.out.2.2.1 av.out.2.2.2 _ _ _ _ hW.symm;have aB:=hid (rb w.heap.size w (by omega) ay.out);have aJ:Hid (∀q:Addr,q.block≠w.heap.size+1->W.cell? q=w2.cell? q):=ro;have au:w.heap.size+1<W.heap.size:=by rw[rz];exact aG
 replace r0:=Yi W (Obj.cells #[.int .i64 fk,.string fx,.int .i64 fc,.slice A2 fs.length ai] 24) _ _ _ au r0
 replace r1:=Yi W (Obj.cells #[.int .i64 fk,.string fx,.int .i64 fc,.slice A2 fs.length ai] 24) _ _ _ au r1
 replace r2:=Yi W (Obj.cells #[.int .i64 fk,.string fx,.int .i64 fc,.slice A2 fs.length ai] 24) _ _ _ au r2
 replace r3:=Yi W (Obj.cells #[.int .i64 fk,.string fx,.int .i64 fc,.slice A2 fs.length ai] 24) _ _ _ au r3
 clear hW ro rb;refine bodyPost_ret (v:=.tuple #[.agg #[.int .i64 fk,.string fx,.int .i64 fc,.slice A2 fs.length ai],.int .i64 0]) (by simp[results,Tryz.results64,go_sem,r0,r1,r2,r3]) rfl ?_;have h:=HR.out;simp[ZJ] at h;obtain⟨⟨h1,h2,h3,h4⟩,h5⟩:=h;rw[h1,h2,h3,h4,h5];exact⟨_,rfl,aO.out.keep (fun q hq=>((XP _ _).cell (QV (aN.out _ hq) aB.out.size)).trans (aJ.out q (Nat.ne_of_lt (Nat.lt_succ_of_lt (aN.out _ hq))))) (fun _ h=>h),WU aB.out _⟩
theorem VS (t:Z9) (p:List Int) (A Ap:Option Addr) (cap cp:Nat) (w:World) (hv:Z8 Z7 w (Lt w.heap.size) t.kids (.slice A t.kids.length cap)) (aa:t.text.size<=maxLen) (ae:ZW t<=900000) (hp:Z0 w (Lt w.heap.size) p (.slice Ap p.length cp)) :
 Calls Tryz.prog 64 #[.agg #[.int .i64 t.kind,.string t.text,.int .i64 t.cols,.slice A t.kids.length cap],.slice Ap p.length cp] w (U1 (Lt w.heap.size) w (ZR t p).1.kind (ZR t p).1.text (ZR t p).1.cols (ZR t p).1.kids (ZR t p).2):=zF0 t p A Ap cap cp w (Lt w.heap.size) (fun _ h=>h) hv aa ae hp
