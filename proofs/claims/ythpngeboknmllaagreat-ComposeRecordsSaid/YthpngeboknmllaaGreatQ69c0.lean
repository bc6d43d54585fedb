/- T -/
import Derived.Test.YthpngeboknmllaaGreatQ4f22
set_option linter.unusedVariables false
set_option linter.unusedSimpArgs false
set_option maxHeartbeats 8000000
set_option maxRecDepth 100000
namespace Go.Proofs.YthpngeboknmllaaGreat
open Go.RowKit
def ZN:Z9:=.mk 0 ⟨#[]⟩ 0 []
def ZP:Z9->List Int->Z9×Bool
 |
  t,i::k::p =>
  if hi:0<=i/\i.toNat<t.kids.length then
   if hk:0<=k/\k.toNat<(t.kids[i.toNat]'hi.2).kids.length then ZP ((t.kids[i.toNat]'hi.2).kids[k.toNat]'hk.2) p else (ZN,false)
  else (ZN,false)
 |t,[]=>(t,true)
 |t,[_]=>(t,false)
def zOe (S:Nat->Prop) (w:World) (r:Z9×Bool) (e:Ending) (w':World):Prop :=
 ∃v,e=.returned (.tuple #[.agg #[.int .i64 r.1.kind,.string r.1.text,.int .i64 r.1.cols,v],.bool r.2])/\Z8 Z6 w' S r.1.kids v/\Below w.heap.size w w'
theorem zM4 (t:Z9) (p:List Int) (h:p.length<2):ZP t p=(t,decide (p.length=0)):=by
 match p,h with
 |[],_=>rfl
 |[_],_=>rfl
theorem four {w:World} {b:Nat} {x0 x1 x2 x3:Value} (d0:w.cell? ⟨b,0,none⟩=some x0) (d1:w.cell? ⟨b,1,none⟩=some x1) (d2:w.cell? ⟨b,2,none⟩=some x2) (d3:w.cell? ⟨b,3,none⟩=some x3) (y0 y1 y2 y3:Value) {W:World}
  (hW:W=(((w.setCell ⟨b,0,none⟩ y0).setCell ⟨b,1,none⟩ y1).setCell ⟨b,2,none⟩ y2).setCell ⟨b,3,none⟩ y3) :
  (W.cell? ⟨b,0,none⟩=some y0/\W.cell? ⟨b,1,none⟩=some y1/\W.cell? ⟨b,2,none⟩=some y2/\W.cell? ⟨b,3,none⟩=some y3)/\W.heap.size=w.heap.size/\(∀B a,B<=b->Below B a w->Below B a W) /\
  (∀p:Addr,p.block≠b->W.cell? p=w.cell? p)/\(∀p:Addr,W.frozen? p=w.frozen? p):=by
 have o:∀(i j:Nat),i≠j->(⟨b,i,none⟩:Addr)≠⟨b,j,none⟩:=fun i j h e=>h (by injection e)
 have f:∀(p:Addr) (j:Nat),p.block≠b->(⟨b,j,none⟩:Addr)≠p:=fun p j h e=>h (by rw[<-e])
 subst hW;refine⟨⟨?_,?_,?_,?_⟩,by simp[World.setCell],fun B a hB h=>(((h.setCell hB _).setCell hB _).setCell hB _).setCell hB _,fun p hp=>?_,fun p=>?_⟩
 ·rw[World.cell?_setCell_other (h:=o 3 0 (by decide)),World.cell?_setCell_other (h:=o 2 0 (by decide)),World.cell?_setCell_other (h:=o 1 0 (by decide)),World.cell?_setCell_same (h:=d0)]
 ·rw[World.cell?_setCell_other (h:=o 3 1 (by decide)),World.cell?_setCell_other (h:=o 2 1 (by decide))];exact World.cell?_setCell_same _ _ _ (by rw[World.cell?_setCell_other (h:=o 0 1 (by decide))];exact d1)
 ·rw[World.cell?_setCell_other (h:=o 3 2 (by decide))];exact World.cell?_setCell_same _ _ _ (by rw[World.cell?_setCell_other (h:=o 1 2 (by decide)),World.cell?_setCell_other (h:=o 0 2 (by decide))];exact d2)
 ·exact World.cell?_setCell_same _ _ _ (by rw[World.cell?_setCell_other (h:=o 2 3 (by decide)),World.cell?_setCell_other (h:=o 1 3 (by decide)),World.cell?_setCell_other (h:=o 0 3 (by decide))];exact d3)
 ·rw[World.cell?_setCell_other (h:=f p 3 hp),World.cell?_setCell_other (h:=f p 2 hp),World.cell?_setCell_other (h:=f p 1 hp),World.cell?_setCell_other (h:=f p 0 hp)]
 rw[World.frozen?_setCell,World.frozen?_setCell,World.frozen?_setCell,World.frozen?_setCell]
theorem Qn {B:Nat} {a w:World} (h:Below B a w) (n:Nat):Below B a (w.drewN n):=⟨h.os,h.tape,h.output,h.size,h.block⟩
theorem Yr {w:World} {p:Addr} {v:Value} {n:Nat} (h:w.cell? p=some v):(w.drewN n).cell? p=some v:=h
theorem UG (t:Z9) (p:List Int) (w:World) (a b:Value) (S:Nat->Prop) (hS:∀k,S k->k<w.heap.size) (ha:Z8 Z6 w S t.kids a) (hb:Z0 w (Lt w.heap.size) p b) :
  Calls Tryz.prog 103 #[.agg #[.int .i64 t.kind,.string t.text,.int .i64 t.cols,a],b] w (zOe S w (ZP t p)):=by
 have HA:=hid ha;have ag:=hid hS;clear hS;have HB:=hid hb;obtain⟨A,cap,_,rfl,_,_,_,_⟩:=ha;obtain⟨A',cap',_,rfl,_,_,_,_⟩:=hb;rename_i h1 h2 h3 h4 h5 h6 h7 h8;clear h1 h2 h3 h4 h5 h6 h7 h8;go_enter Tryz.func103,Tryz.ntmps103
 go_wp2_with fail
 go_loopw [1] (fun c wr=>Below w.heap.size w wr/\w.heap.size+1<wr.heap.size/\∃(t':Z9) (p':List Int) (v':Value),Z0 w (Lt w.heap.size) p' c/\Z8 Z6 w S t'.kids v'/\ZP t' p'=ZP t p/\p'.length<=p.length /\
  (wr.cell? ⟨w.heap.size,0,none⟩=some (.int .i64 t'.kind)/\wr.cell? ⟨w.heap.size,1,none⟩=some (.string t'.text)/\wr.cell? ⟨w.heap.size,2,none⟩=some (.int .i64 t'.cols)/\wr.cell? ⟨w.heap.size,3,none⟩=some v') /\
  (wr.frozen? ⟨w.heap.size,0,none⟩=false/\wr.frozen? ⟨w.heap.size,1,none⟩=false/\wr.frozen? ⟨w.heap.size,2,none⟩=false/\wr.frozen? ⟨w.heap.size,3,none⟩=false) /\
  (wr.frozen? ⟨w.heap.size+1,0,none⟩=false/\wr.frozen? ⟨w.heap.size+1,1,none⟩=false/\wr.frozen? ⟨w.heap.size+1,2,none⟩=false/\wr.frozen? ⟨w.heap.size+1,3,none⟩=false) /\
  (wr.cell? ⟨w.heap.size+1,0,none⟩=some (.int .i64 0)/\wr.cell? ⟨w.heap.size+1,1,none⟩=some (.string ⟨#[]⟩)/\wr.cell? ⟨w.heap.size+1,2,none⟩=some (.int .i64 0)/\wr.cell? ⟨w.heap.size+1,3,none⟩=some (.slice none 0 0)))
  (fun c _=>match c with|.slice _ n _=>n|_=>0)
 case atStart =>
  refine⟨?_,?_,t,p,_,HB.out,HA.out,rfl,Qi _,⟨?_,?_,?_,?_⟩,⟨?_,?_,?_,?_⟩,⟨?_,?_,?_,?_⟩,?_,?_,?_,?_⟩
  ·exact((Qg _ _).alloc (Qi _) _).alloc (by simp) _
  ·simp
  all_goals first|(simp[go_sem];done)|skip
 obtain⟨hb,hz,t',p',v',hp,hv,hf,aD,⟨c0,c1,c2,c3⟩,⟨e0,e1,e2,e3⟩,⟨f0,f1,f2,f3⟩,d0,d1,d2,d3⟩:=hrel;have HP:=hid hp;have HV:=hid hv;have HF:=hid hf;have aj:=hid hb;clear hf hb;obtain⟨A1,n1,_,rfl,_,_,_,_⟩:=hp;obtain⟨A2,n2,_,rfl,_,_,_,_⟩:=hv;rename_i h1 h2 h3 h4 h5 h6 h7 h8;by_cases hs:p'.length<2
 ·have HS:=hid (zM4 t' p' hs);have i1:¬(2:Int)<=(p'.length:Int):=by omega
  have aN:w.heap.size<wr.heap.size:=by omega
  clear h1 h2 h3 h4 h5 h6 h7 h8 hz;by_cases ah:p'.length=0
  ·have i2:((p'.length:Int)==0)=true:=by simp[ah]
   have i3:decide ((p'.length:Int)=0)=true:=by simp[ah]
   have aa:Hid (ZP t p=(t',true)):=by show _=_;rw[<-HF.out,HS.out];simp[ah]
   clear ah
   go_wp2_with fail
   generalize hW:(((wr.setCell _ (.int .i64 t'.kind)).setCell _ (.string t'.text)).setCell _ (.int .i64 t'.cols)).setCell _ (.slice A2 t'.kids.length n2)=W;obtain⟨⟨q0,q1,q2,q3⟩,qz,qb,_,_⟩:=four d0 d1 d2 d3 _ _ _ _ hW.symm;have ae:=qb _ _ (by simp) aj.out;clear hW d0 d1 d2 d3;refine bodyPost_ret (v:=.tuple #[.agg #[.int .i64 t'.kind,.string t'.text,.int .i64 t'.cols,.slice A2 t'.kids.length n2],.bool true]) (by simp[results,Tryz.results103,go_sem,q0,q1,q2,q3]) rfl ?_;exact⟨.slice A2 t'.kids.length n2,by rw[aa.out],by rw[aa.out];exact HV.out.keep (fun p hp=>ae.cell (ag.out _ hp)) (fun _ h=>h),ae⟩
  have i2:((p'.length:Int)==0)=false:=by simp;intro h;simp[h] at ah
  have i3:decide ((p'.length:Int)=0)=false:=by simp;intro h;simp[h] at ah
  have aa:Hid (ZP t p=(t',false)):=by show _=_;rw[<-HF.out,HS.out,decide_eq_false ah]
  clear ah
  go_wp2_with fail
  generalize hW:(((wr.setCell _ (.int .i64 t'.kind)).setCell _ (.string t'.text)).setCell _ (.int .i64 t'.cols)).setCell _ (.slice A2 t'.kids.length n2)=W;obtain⟨⟨q0,q1,q2,q3⟩,qz,qb,_,_⟩:=four d0 d1 d2 d3 _ _ _ _ hW.symm;have ae:=qb _ _ (by simp) aj.out;clear hW d0 d1 d2 d3;refine bodyPost_ret (v:=.tuple #[.agg #[.int .i64 t'.kind,.string t'.text,.int .i64 t'.cols,.slice A2 t'.kids.length n2],.bool false]) (by simp[results,Tryz.results103,go_sem,q0,q1,q2,q3]) rfl ?_;exact⟨.slice A2 t'.kids.length n2,by rw[aa.out],by rw[aa.out];exact HV.out.keep (fun p hp=>ae.cell (ag.out _ hp)) (fun _ h=>h),ae⟩
 obtain⟨i,k,q,rfl⟩:∃i k q,p'=i::k::q:=by
  match p',hs with
  |i::k::q,_=>exact⟨i,k,q,rfl⟩
  |[_],hs=>simp at hs
  |[],hs=>simp at hs
 have i1:(2:Int)<=((i::k::q).length:Int):=by simp;omega
 have aN:w.heap.size<wr.heap.size:=by omega
 obtain⟨g,o,rfl,hg,hi,a0⟩:=X5 h2 h3 (k:=0) (by simp);obtain⟨g',o',aQ,hg',hk,a1⟩:=X5 h2 h3 (k:=1) (by simp);cases aQ;simp only[List.getElem_cons_zero,List.getElem_cons_succ,Nat.add_zero] at a0 a1 hi hk
 replace a0:=((bcell aj.out).1 _ _ hg).trans a0
 replace a1:=((bcell aj.out).1 _ _ hg).trans a1
 have aR:g<w.heap.size:=hg;by_cases hx:0<=i/\i.toNat<t'.kids.length
 ·obtain⟨hx1,aA⟩:=hx;obtain⟨ig,io,B1,b1,bs1,aT,ay,t0,t1,t2,t3,_,_,_,aL,aK,aB,aC⟩:=YW h7 h8 aA;cases aT;obtain⟨i',rfl⟩:∃i':Nat,i=i':=⟨i.toNat,by omega⟩;simp only[Int.toNat_natCast] at *;have j0:decide ((i':Int)<0)=false:=by simp
  have j1:¬(i':Int)<0:=by omega
  have j2:decide ((t'.kids.length:Int)<=i')=false:=by simp;omega
  have j3:(i':Int)<(t'.kids.length:Int):=by omega
  have af:=(bcell aj.out).1
  replace t0:=(af _ _ (ag.out _ ay)).trans t0
  replace t1:=(af _ _ (ag.out _ ay)).trans t1
  replace t2:=(af _ _ (ag.out _ ay)).trans t2
  replace t3:=(af _ _ (ag.out _ ay)).trans t3
  clear h1 h2 h3 h5 h6 h7 h8 af;obtain⟨A3,aO,hcut⟩:=TM ZA Tryz.underlying25 WO (some ⟨g,o,none⟩) (((i':Nat):Int)::k::q).length n1 2 2 rfl (by simp);have aF:=hid (hcut _ _ _ HP.out);clear hcut;have aH:(((i':Nat):Int)::k::q).length-2=q.length:=by simp
  rw[aH] at aO aF;simp only[List.drop_succ_cons,List.drop_zero] at aF;have aP:q.length+2<=p.length:=aD;clear aD aH HP;generalize hm:(((i':Nat):Int)::k::q).length=m at *;have m0:(0:Int)<(m:Int):=by rw[<-hm];simp;omega
  have m2:0<m:=by omega
  have m1:1<m:=by omega
  have m3:(1:Int)<(m:Int):=by omega
  have aX:Hid (q.length<m):=by show _<_;rw[<-hm];simp;omega
  clear hm
  go_wp2_with fail
  go_quiet (fail)
  go_wp2_with fail
  go_region
  generalize hW:((((World.drewN wr _).setCell _ (.int .i64 t'.kids[i'].kind)).setCell _ (.string t'.kids[i'].text)).setCell _ (.int .i64 t'.kids[i'].cols)).setCell _ (.slice B1 t'.kids[i'].kids.length b1)=W1;obtain⟨⟨q0,q1,q2,q3⟩,qz,qb,qf,qr⟩:=four (Yr c0) (Yr c1) (Yr c2) (Yr c3) _ _ _ _ hW.symm;have az:=hid (qb _ _ (Qi _) (Qn aj.out _));have qa:W1.cell? ⟨g,o+1,none⟩=some (.int .i64 k):=(qf _ (Nat.ne_of_lt aR)).trans a1;have r0:=(qf ⟨w.heap.size+1,0,none⟩ (Nat.succ_ne_self _)).trans (Yr d0);have r1:=(qf ⟨w.heap.size+1,1,none⟩ (Nat.succ_ne_self _)).trans (Yr d1);have r2:=(qf ⟨w.heap.size+1,2,none⟩ (Nat.succ_ne_self _)).trans (Yr d2);have r3:=(qf ⟨w.heap.size+1,3,none⟩ (Nat.succ_ne_self _)).trans (Yr d3)
  replace e0:=(qr ⟨w.heap.size,0,none⟩).trans e0
  replace e1:=(qr ⟨w.heap.size,1,none⟩).trans e1
  replace e2:=(qr ⟨w.heap.size,2,none⟩).trans e2
  replace e3:=(qr ⟨w.heap.size,3,none⟩).trans e3
  replace f0:=(qr ⟨w.heap.size+1,0,none⟩).trans f0
  replace f1:=(qr ⟨w.heap.size+1,1,none⟩).trans f1
  replace f2:=(qr ⟨w.heap.size+1,2,none⟩).trans f2
  replace f3:=(qr ⟨w.heap.size+1,3,none⟩).trans f3
  have z1:w.heap.size+1<W1.heap.size:=by rw[qz];exact hz
  clear hW qf qr qb c0 c1 c2 c3 d0 d1 d2 d3 a0 a1;clear j0 j1 j2;by_cases hy:0<=k/\k.toNat<t'.kids[i'].kids.length
  ·obtain⟨hy1,aG⟩:=hy;obtain⟨jg,jo,B2,b2,aV,aS,ax,t4,t5,t6,t7,_,_,_,aJ,aI,ak,au⟩:=YW aB aC aG;cases aS;obtain⟨k',rfl⟩:∃k':Nat,k=k':=⟨k.toNat,by omega⟩;simp only[Int.toNat_natCast] at *;have j0:decide ((k':Int)<0)=false:=by simp
   have j1:¬(k':Int)<0:=by omega
   have j3:(k':Int)<(t'.kids[i'].kids.length:Int):=by omega
   have j2:decide ((t'.kids[i'].kids.length:Int)<=k')=false:=by simp;omega
   have aa:Hid (ZP t'.kids[i'].kids[k'] q=ZP t p):=by show _=_;rw[<-HF.out,ZP,dif_pos ⟨by omega,by simpa using aA⟩,dif_pos ⟨by omega,by simpa using aG⟩];rfl
   have aW:Hid (Z8 Z6 w S t'.kids[i'].kids[k'].kids (.slice B2 t'.kids[i'].kids[k'].kids.length b2)):=⟨B2,b2,aV,rfl,aJ,aI,ak,au⟩;have af:=(bcell az.out).1
   replace t4:=(af _ _ (ag.out _ ax)).trans t4
   replace t5:=(af _ _ (ag.out _ ax)).trans t5
   replace t6:=(af _ _ (ag.out _ ax)).trans t6
   replace t7:=(af _ _ (ag.out _ ax)).trans t7
   clear af aJ aI ak au aB aC aL aK t0 t1 t2 t3 HF HV
   go_wp2_with fail
   go_quiet (fail)
   go_wp2_with fail
   go_region
   go_wp2_with fail
   generalize aU:((((World.drewN W1 _).setCell _ (.int .i64 t'.kids[i'].kids[k'].kind)).setCell _ (.string t'.kids[i'].kids[k'].text)).setCell _ (.int .i64 t'.kids[i'].kids[k'].cols)).setCell _ (.slice B2 t'.kids[i'].kids[k'].kids.length b2)=W2;obtain⟨⟨s0,s1,s2,s3⟩,sz,sb,sf,sr⟩:=four (Yr q0) (Yr q1) (Yr q2) (Yr q3) _ _ _ _ aU.symm;have aY:=hid (sb _ _ (Qi _) (Qn az.out _));have av:∀j,(⟨w.heap.size+1,j,none⟩:Addr).block≠w.heap.size:=fun j=>Nat.succ_ne_self _
   exact⟨⟨aY.out,by rw[sz];exact z1,_,q,_,aF.out,aW.out,aa.out,by omega,⟨s0,s1,s2,s3⟩,⟨(sr _).trans e0,(sr _).trans e1,(sr _).trans e2,(sr _).trans e3⟩,⟨(sr _).trans f0,(sr _).trans f1,(sr _).trans f2,(sr _).trans f3⟩,(sf _ (av 0)).trans (Yr r0),(sf _ (av 1)).trans (Yr r1),(sf _ (av 2)).trans (Yr r2),(sf _ (av 3)).trans (Yr r3)⟩,aX.out⟩
  have aa:Hid (ZP t p=(ZN,false)):=by show _=_;rw[<-HF.out,ZP,dif_pos ⟨by omega,by simpa using aA⟩,dif_neg (by simpa using hy)]
  have i2:¬(0<=k)\/(0<=k/\(t'.kids[i'].kids.length:Int)<=k):=by omega
  clear hy aB aC aL aK;rcases i2 with i2|⟨i2,i3⟩
  ·have j0:decide (k<0)=true:=by simp;omega
   have j1:k<0:=by omega
   go_wp2_with fail
   go_quiet (fail)
   go_wp2_with fail
   generalize hW:((((World.drewN W1 _).setCell _ (.int .i64 0)).setCell _ (.string ⟨#[]⟩)).setCell _ (.int .i64 0)).setCell _ (.slice none 0 0)=W;obtain⟨⟨s0,s1,s2,s3⟩,aM,qb,_,_⟩:=four (Yr r0) (Yr r1) (Yr r2) (Yr r3) _ _ _ _ hW.symm;have ae:=qb _ _ (by simp) (Qn az.out _);clear hW;refine bodyPost_ret (v:=.tuple #[.agg #[.int .i64 0,.string ⟨#[]⟩,.int .i64 0,.slice none 0 0],.bool false]) (by simp[results,Tryz.results103,go_sem,s0,s1,s2,s3]) rfl ?_;exact⟨.slice none 0 0,by rw[aa.out];rfl,by rw[aa.out];exact Z8.nil_ 0 (Qj _) none,ae⟩
  have j0:decide (k<0)=false:=by simp;omega
  have j1:¬k<0:=by omega
  have j2:decide ((t'.kids[i'].kids.length:Int)<=k)=true:=by simp;omega
  go_wp2_with fail
  go_quiet (fail)
  go_wp2_with fail
  generalize hW:((((World.drewN W1 _).setCell _ (.int .i64 0)).setCell _ (.string ⟨#[]⟩)).setCell _ (.int .i64 0)).setCell _ (.slice none 0 0)=W;obtain⟨⟨s0,s1,s2,s3⟩,aM,qb,_,_⟩:=four (Yr r0) (Yr r1) (Yr r2) (Yr r3) _ _ _ _ hW.symm;have ae:=qb _ _ (by simp) (Qn az.out _);clear hW;refine bodyPost_ret (v:=.tuple #[.agg #[.int .i64 0,.string ⟨#[]⟩,.int .i64 0,.slice none 0 0],.bool false]) (by simp[results,Tryz.results103,go_sem,s0,s1,s2,s3]) rfl ?_;exact⟨.slice none 0 0,by rw[aa.out];rfl,by rw[aa.out];exact Z8.nil_ 0 (Qj _) none,ae⟩
 have aa:Hid (ZP t p=(ZN,false)):=by show _=_;rw[<-HF.out,ZP,dif_neg hx]
 have i2:¬(0<=i)\/(0<=i/\(t'.kids.length:Int)<=i):=by omega
 clear h1 h2 h3 h4 h5 h6 h7 h8 hx HP HF aD;generalize hm:(i::k::q).length=m at *;have m0:(0:Int)<(m:Int):=by rw[<-hm];simp;omega
 have m2:0<m:=by omega
 clear hm;rcases i2 with i2|⟨i2,i3⟩
 ·have j0:decide (i<0)=true:=by simp;omega
  have j1:i<0:=by omega
  go_wp2_with fail
  go_quiet (fail)
  go_wp2_with fail
  generalize hW:((((World.drewN wr _).setCell _ (.int .i64 0)).setCell _ (.string ⟨#[]⟩)).setCell _ (.int .i64 0)).setCell _ (.slice none 0 0)=W;obtain⟨⟨q0,q1,q2,q3⟩,qz,qb,_,_⟩:=four (Yr d0) (Yr d1) (Yr d2) (Yr d3) _ _ _ _ hW.symm;have ae:=qb _ _ (by simp) (Qn aj.out _);clear hW d0 d1 d2 d3;refine bodyPost_ret (v:=.tuple #[.agg #[.int .i64 0,.string ⟨#[]⟩,.int .i64 0,.slice none 0 0],.bool false]) (by simp[results,Tryz.results103,go_sem,q0,q1,q2,q3]) rfl ?_;exact⟨.slice none 0 0,by rw[aa.out];rfl,by rw[aa.out];exact Z8.nil_ 0 (Qj _) none,ae⟩
 have j0:decide (i<0)=false:=by simp;omega
 have j1:¬i<0:=by omega
 have j2:decide ((t'.kids.length:Int)<=i)=true:=by simp;omega
 go_wp2_with fail
 go_quiet (fail)
 go_wp2_with fail
 generalize hW:((((World.drewN wr _).setCell _ (.int .i64 0)).setCell _ (.string ⟨#[]⟩)).setCell _ (.int .i64 0)).setCell _ (.slice none 0 0)=W;obtain⟨⟨q0,q1,q2,q3⟩,qz,qb,_,_⟩:=four (Yr d0) (Yr d1) (Yr d2) (Yr d3) _ _ _ _ hW.symm;have ae:=qb _ _ (by simp) (Qn aj.out _);clear hW d0 d1 d2 d3;refine bodyPost_ret (v:=.tuple #[.agg #[.int .i64 0,.string ⟨#[]⟩,.int .i64 0,.slice none 0 0],.bool false]) (by simp[results,Tryz.results103,go_sem,q0,q1,q2,q3]) rfl ?_;exact⟨.slice none 0 0,by rw[aa.out];rfl,by rw[aa.out];exact Z8.nil_ 0 (Qj _) none,ae⟩
def ZZ (t:Z9) (i:Int):Z9:=t.kids.getD i.toNat ZN
def ZV:Z9->List Int->List Z9->Z9
 |t,i::k::p,l=>Y3 t i.toNat (Y3 (ZZ t i) k.toNat (ZV (ZZ (ZZ t i) k) p l))
 |_,_,l=>Z7 l
def NS (S:Nat->Prop) (b:Nat) (w:World) (q:Nat):Prop:=S q\/b<=q/\q<w.heap.size
theorem NS.keep {S:Nat->Prop} {b:Nat} {w w':World} {l:List Z9} {v:Value} (h:Z8 Z6 w (NS S b w) l v) (hS:∀q,S q->q<w.heap.size) (hb:Below w.heap.size w w'):Z8 Z6 w' (NS S b w') l v:=newer h hS hb
theorem XC.ns {S:Nat->Prop} {b:Nat} {W w':World} {t:Z9} {e:Ending} (h:XC S W t e w') (hb:b<=W.heap.size):∃v,e=.returned (.agg #[.int .i64 t.kind,.string t.text,.int .i64 t.cols,v])/\Z8 Z6 w' (NS S b w') t.kids v/\Below W.heap.size W w':=by
 obtain⟨v,h1,h2,h3⟩:=h;exact⟨v,h1,h2.keep (fun _ _=>rfl) (fun q hq=>by rcases hq with hq|hq;exact .inl hq;exact .inr ⟨by omega,hq.2⟩),h3⟩
theorem XC.ns2 {S:Nat->Prop} {b:Nat} {W w':World} {t:Z9} {e:Ending} (h:XC (NS S b W) W t e w') (hb:b<=W.heap.size):∃v,e=.returned (.agg #[.int .i64 t.kind,.string t.text,.int .i64 t.cols,v])/\Z8 Z6 w' (NS S b w') t.kids v/\Below W.heap.size W w':=by
 obtain⟨v,h1,h2,h3⟩:=h;have:=h3.size;exact⟨v,h1,h2.keep (fun _ _=>rfl) (fun q hq=>by
  rcases hq with (hq|hq)|hq
  ·exact .inl hq
  ·exact .inr ⟨by omega,by omega⟩
  exact .inr ⟨by omega,hq.2⟩),h3⟩
theorem zKc (t:Z9) (p:List Int) (l:List Z9) (h:Zk t):Zk (ZV t p l):=by
 match p with
 |[]=>exact⟨by simp[ZV,Z7,Z9.kind,Z4],by simp[ZV,Z7,Z9.cols,Z4],Qj _⟩
 |[_]=>exact⟨by simp[ZV,Z7,Z9.kind,Z4],by simp[ZV,Z7,Z9.cols,Z4],Qj _⟩
 |i::k::p=>exact h
theorem zPz:(p:List Int)->∀(t:Z9) (l:List Z9) (A B Ap:Option Addr) (cap cb cp:Nat) (w:World) (S:Nat->Prop),(∀q,S q->q<w.heap.size)->(ZP t p).2=true->ZR t<=1000000->Zk t->l.length<=1000000->Z8 Z6 w S t.kids (.slice A t.kids.length cap)->Z8 Z6 w S l (.slice B l.length cb)->Z0 w (Lt w.heap.size) p (.slice Ap p.length cp) ->
  Calls Tryz.prog 66 #[.agg #[.int .i64 t.kind,.string t.text,.int .i64 t.cols,.slice A t.kids.length cap],.slice Ap p.length cp,.slice B l.length cb] w (XC S w (ZV t p l))
 |
  [],t,l,A,B,Ap,cap,cb,cp,w,S,hS,hf,hct,hok,hll,hv,hl,hp=>by
  obtain⟨tk,tx,tc,ts⟩:=t;simp only[Z9.kind,Z9.text,Z9.cols,Z9.kids,ZV] at *;generalize aj:(w.alloc (Obj.cells #[.int .i64 tk,.string tx,.int .i64 tc,.slice A ts.length cap] 24)).alloc (Obj.cells #[.int .i64 0,.string ⟨#[]⟩,.int .i64 0,.slice none 0 0] 24)=W0;have aA:W0.heap.size=w.heap.size+1+1:=by rw[<-aj];simp
  have ae:Below w.heap.size w W0:=by rw[<-aj];exact Zy (ZW _ _) _
  have az:ZI W0 (w.heap.size+1) 0 ⟨#[]⟩ 0 (.slice none 0 0)/\Yy W0 (w.heap.size+1):=by
   rw[<-aj];have h:=ZI.new (w.alloc (Obj.cells #[.int .i64 tk,.string tx,.int .i64 tc,.slice A ts.length cap] 24)) 0 ⟨#[]⟩ 0 (.slice none 0 0) 24;have h2:=Yy.new (w.alloc (Obj.cells #[.int .i64 tk,.string tx,.int .i64 tc,.slice A ts.length cap] 24)) #[.int .i64 0,.string ⟨#[]⟩,.int .i64 0,.slice none 0 0] 24;exact⟨by simpa using h,by simpa using h2⟩
  have KC:Hid (∀W,Below W0.heap.size W0 W->ZI W (w.heap.size+1) 0 ⟨#[]⟩ 0 (.slice none 0 0)/\Yy W (w.heap.size+1)/\Below w.heap.size w W):=fun W h=>⟨az.1.below h (by omega),az.2.below h (by omega),ae.trans (h.mono ae.size)⟩
  have HL:=hid hl;have aP:=hid hS;have aT:=hid aA;clear hv hl hp hS hf hct hok aA ae az;go_enter Tryz.func66,Tryz.ntmps66
  go_wp2_with fail
  refine(zHp _ _ _ _).mono ?_;rintro e w2 ⟨rfl,aM⟩;obtain⟨aD,⟨f0,f1,f2,f3⟩,aa⟩:=KC.out w2 aM;have af:=hid aD;obtain⟨r0,r1,r2,r3⟩:=aD;have bQ:=hid aa;clear aM aa
  go_wp2_with fail
  generalize hZ:((((w2.setCell _ (.int .i64 1)).setCell _ (.string ⟨#[]⟩)).setCell _ (.int .i64 0)).setCell _ (.slice B l.length cb))=Z;obtain⟨⟨e0,e1,e2,e3⟩,aS,aO,aN,_,_⟩:=Xy (o:=0) af.out.1 af.out.2.1 af.out.2.2.1 af.out.2.2.2 _ _ _ _ hZ.symm;simp only[Nat.zero_add] at e1 e2 e3;have bn:=hid (aO w.heap.size w (by omega) bQ.out);have bg:=hid aN;clear hZ aS aO aN;refine bodyPost_ret (v:=.agg #[.int .i64 1,.string ⟨#[]⟩,.int .i64 0,.slice B l.length cb]) (by simp[results,Tryz.results66,go_sem,e0,e1,e2,e3]) rfl ?_;exact⟨_,rfl,HL.out.keep (fun q hq=>(bg.out q (by have:=aP.out _ hq;omega)).trans (bQ.out.cell (aP.out _ hq))) (fun q hq=>.inl hq),bn.out⟩
 |[_],t,l,A,B,Ap,cap,cb,cp,w,S,hS,hf,hct,hok,hll,hv,hl,hp=>by simp[ZP] at hf
 |
  i::k::p,t,l,A,B,Ap,cap,cb,cp,w,S,hS,hf,hct,hok,hll,hv,hl,hp=>by
  rw[ZP] at hf;split at hf
  case isFalse=>cases hf
  rename_i hi;split at hf
  case isFalse=>cases hf
  rename_i hk;obtain⟨hi1,aL⟩:=hi;obtain⟨hk1,aK⟩:=hk;obtain⟨i',rfl⟩:∃i':Nat,i=i':=⟨i.toNat,by omega⟩;obtain⟨k',rfl⟩:∃k':Nat,k=k':=⟨k.toNat,by omega⟩;simp only[Int.toNat_natCast] at aL aK hf;have aJ:ZZ t (i':Int)=t.kids[i']:=by unfold ZZ;rw[Int.toNat_natCast,List.getD_eq_getElem?_getD,List.getElem?_eq_getElem aL];rfl
  have ah:ZZ t.kids[i'] (k':Int)=t.kids[i'].kids[k']:=by unfold ZZ;rw[Int.toNat_natCast,List.getD_eq_getElem?_getD,List.getElem?_eq_getElem aK];rfl
  have aF:ZV t ((i':Int)::(k':Int)::p) l=Y3 t i' (Y3 t.kids[i'] k' (ZV t.kids[i'].kids[k'] p l)):=by rw[ZV,Int.toNat_natCast,Int.toNat_natCast,aJ,ah]
  have hc1:ZR t.kids[i']<=1000000/\t.kids.length<=1000000:=by
   have h1:=WV aL;have h2:=Xx t.kids (i'+1);have h3:=XW t;have h4:ZR t=1+ZQ t.kids:=by cases t;rfl
   constructor<;>omega
  have aY:ZR t.kids[i'].kids[k']<=1000000/\t.kids[i'].kids.length<=1000000:=by
   have h1:=WV aK;have h2:=Xx t.kids[i'].kids (k'+1);have h3:=XW t.kids[i'];have h4:ZR t.kids[i']=1+ZQ t.kids[i'].kids:=by cases t.kids[i'];rfl
   constructor<;>omega
  have dh:=hv;obtain⟨_,_,rs0,hq,_,_,aC,aI⟩:=dh;cases hq;obtain⟨g,o,A1,c1,bU,rfl,hg,t0,t1,t2,t3,b1,b2,b3,b4,b5,au,ay⟩:=YW aC aI aL;obtain⟨gk,ok,A2,c2,bR,rfl,bC,d0,d1,d2,d3,a1,a2,a3,a4,a5,aB,aH⟩:=YW au ay aK;have bL:Z8 Z6 w S t.kids[i'].kids (.slice (some ⟨gk,ok,none⟩) t.kids[i'].kids.length c1):=⟨_,_,bU,rfl,b4,b5,au,ay⟩;have bK:Z8 Z6 w S t.kids[i'].kids[k'].kids (.slice A2 t.kids[i'].kids[k'].kids.length c2):=⟨_,_,bR,rfl,a4,a5,aB,aH⟩;have aG:Zk t.kids[i']:=⟨b1,b2,b3⟩;have av:Zk t.kids[i'].kids[k']:=⟨a1,a2,a3⟩;have dw:=hp;obtain⟨_,_,ws,hq,dn,dm,ak,ax⟩:=dw;cases hq;obtain⟨gp,op,rfl,bB,_,p0⟩:=X5 ak ax (k:=0) (by simp);obtain⟨g2,o2,hq,_,_,p1⟩:=X5 ak ax (k:=1) (by simp);cases hq;simp only[List.getElem_cons_zero,List.getElem_cons_succ,Nat.add_zero] at p0 p1;obtain⟨A3,di,hcut⟩:=TM ZA Tryz.underlying25 WO (some ⟨gp,op,none⟩) ((i':Int)::(k':Int)::p).length cp 2 2 rfl (by simp);have aR:=hcut _ _ _ hp;simp only[List.drop_succ_cons,List.drop_zero] at aR;rw[show ((i':Int)::(k':Int)::p).length-2=p.length by simp] at di aR;have C1:Hid (∀W,Below w.heap.size w W->Calls Tryz.prog 66 #[.agg #[.int .i64 t.kids[i'].kids[k'].kind,.string t.kids[i'].kids[k'].text,.int .i64 t.kids[i'].kids[k'].cols,.slice A2 t.kids[i'].kids[k'].kids.length c2],.slice A3 p.length (cp-2),.slice B l.length cb] W (XC S W (ZV t.kids[i'].kids[k'] p l))):=fun W hW =>
   zPz p t.kids[i'].kids[k'] l A2 B A3 c2 cb (cp-2) W S (fun q hq=>Qk (hS q hq) hW.size) hf aY.1 av hll (bK.keep (fun q hq=>hW.cell (hS _ hq)) (fun _ h=>h)) (hl.keep (fun q hq=>hW.cell (hS _ hq)) (fun _ h=>h)) (aR.below hW hW.size)
  have ag:=zKc t.kids[i'].kids[k'] p l av;have C2:Hid (∀W b v',Below w.heap.size w W->Z8 Z6 W (NS S b W) (ZV t.kids[i'].kids[k'] p l).kids v'->∀B' c',v'=.slice B' (ZV t.kids[i'].kids[k'] p l).kids.length c'->Calls Tryz.prog 80 #[.agg #[.int .i64 t.kids[i'].kind,.string t.kids[i'].text,.int .i64 t.kids[i'].cols,.slice (some ⟨gk,ok,none⟩) t.kids[i'].kids.length c1],.int .i64 k',.agg #[.int .i64 (ZV t.kids[i'].kids[k'] p l).kind,.string (ZV t.kids[i'].kids[k'] p l).text,.int .i64 (ZV t.kids[i'].kids[k'] p l).cols,v']] W (XC (NS S b W) W (Y3 t.kids[i'] k' (ZV t.kids[i'].kids[k'] p l)))):=by
   intro W b v' hW hr B' c' aU;subst aU;exact zEd t.kids[i'] (ZV t.kids[i'].kids[k'] p l) k' _ B' c1 c' W _ (fun q hq=>by
    have hz:=hW.size;rcases hq with hq|hq
    ·have:=hS q hq;omega
    exact hq.2) aK aY.2 ag (bL.keep (fun q hq=>hW.cell (hS _ hq)) (fun q hq=>.inl hq)) hr
  have C3:Hid (∀W b v',Below w.heap.size w W->Z8 Z6 W (NS S b W) (Y3 t.kids[i'] k' (ZV t.kids[i'].kids[k'] p l)).kids v'->∀B' c',v'=.slice B' (Y3 t.kids[i'] k' (ZV t.kids[i'].kids[k'] p l)).kids.length c'->Calls Tryz.prog 80 #[.agg #[.int .i64 t.kind,.string t.text,.int .i64 t.cols,.slice (some ⟨g,o,none⟩) t.kids.length cap],.int .i64 i',.agg #[.int .i64 t.kids[i'].kind,.string t.kids[i'].text,.int .i64 t.kids[i'].cols,v']] W (XC (NS S b W) W (ZV t ((i':Int)::(k':Int)::p) l))):=by
   intro W b v' hW hr B' c' aU;subst aU;rw[aF];exact zEd t (Y3 t.kids[i'] k' (ZV t.kids[i'].kids[k'] p l)) i' _ B' cap c' W _ (fun q hq=>by
    have hz:=hW.size;rcases hq with hq|hq
    ·have:=hS q hq;omega
    exact hq.2) aL hc1.2 aG (hv.keep (fun q hq=>hW.cell (hS _ hq)) (fun q hq=>.inl hq)) hr
  have KO:Hid (∀W,Below w.heap.size w W->(W.cell? ⟨g,o+i'*4,none⟩=some (.int .i64 t.kids[i'].kind)/\W.cell? ⟨g,o+i'*4+1,none⟩=some (.string t.kids[i'].text)/\W.cell? ⟨g,o+i'*4+2,none⟩=some (.int .i64 t.kids[i'].cols)/\W.cell? ⟨g,o+i'*4+3,none⟩=some (.slice (some ⟨gk,ok,none⟩) t.kids[i'].kids.length c1)) /\
    (W.cell? ⟨gk,ok+k'*4,none⟩=some (.int .i64 t.kids[i'].kids[k'].kind)/\W.cell? ⟨gk,ok+k'*4+1,none⟩=some (.string t.kids[i'].kids[k'].text)/\W.cell? ⟨gk,ok+k'*4+2,none⟩=some (.int .i64 t.kids[i'].kids[k'].cols)/\W.cell? ⟨gk,ok+k'*4+3,none⟩=some (.slice A2 t.kids[i'].kids[k'].kids.length c2)) /\
    (W.cell? ⟨gp,op,none⟩=some (.int .i64 i')/\W.cell? ⟨gp,op+1,none⟩=some (.int .i64 k'))):=fun W hW =>
   have h1:g<w.heap.size:=hS _ hg;have h2:gk<w.heap.size:=hS _ bC;have h3:gp<w.heap.size:=bB
   ⟨⟨(hW.cell (p:=⟨g,_,none⟩) h1).trans t0,(hW.cell (p:=⟨g,_,none⟩) h1).trans t1,(hW.cell (p:=⟨g,_,none⟩) h1).trans t2,(hW.cell (p:=⟨g,_,none⟩) h1).trans t3⟩,⟨(hW.cell (p:=⟨gk,_,none⟩) h2).trans d0,(hW.cell (p:=⟨gk,_,none⟩) h2).trans d1,(hW.cell (p:=⟨gk,_,none⟩) h2).trans d2,(hW.cell (p:=⟨gk,_,none⟩) h2).trans d3⟩,(hW.cell (p:=⟨gp,_,none⟩) h3).trans p0,(hW.cell (p:=⟨gp,_,none⟩) h3).trans p1⟩
  have j0:(0:Int)<=(i':Int):=by omega
  have j1:(i':Int)<(t.kids.length:Int):=by omega
  have j2:(0:Int)<=(k':Int):=by omega
  have j3:(k':Int)<(t.kids[i'].kids.length:Int):=by omega
  have j4:(0:Int)<(((i':Int)::(k':Int)::p).length:Int):=by simp;omega
  have j5:(1:Int)<(((i':Int)::(k':Int)::p).length:Int):=by simp;omega
  have j7:0<((i':Int)::(k':Int)::p).length:=by simp
  have j8:1<((i':Int)::(k':Int)::p).length:=by simp
  have j6:(((((i':Int)::(k':Int)::p).length:Int)==0)=false):=by simp;omega
  have aP:=hid hS;have bA:(ZV t ((i':Int)::(k':Int)::p) l).kind=t.kind/\(ZV t ((i':Int)::(k':Int)::p) l).text=t.text/\(ZV t ((i':Int)::(k':Int)::p) l).cols=t.cols:=⟨rfl,rfl,rfl⟩;have HRK:=hid bA;generalize ZV t ((i':Int)::(k':Int)::p) l=R3 at *;generalize ZV t.kids[i'].kids[k'] p l=R1 at *;have aQ:Hid ((Y3 t.kids[i'] k' R1).kind=t.kids[i'].kind/\(Y3 t.kids[i'] k' R1).text=t.kids[i'].text/\(Y3 t.kids[i'] k' R1).cols=t.kids[i'].cols):=⟨rfl,rfl,rfl⟩;generalize Y3 t.kids[i'] k' R1=R2 at *;generalize t.kids[i'].kids[k']=df at *;generalize t.kids[i']=item at *;generalize ((i':Int)::(k':Int)::p).length=m at *;clear hv hl hp hf hct hok hll aC aI au ay aB aH bL bK ak ax hcut aR hc1 aY aJ ah aF aG av ag hS b1 b2 b3 b4 b5 a1 a2 a3 a4 a5 dn dm bA;obtain⟨tk,tx,tc,ts⟩:=t;obtain⟨ik,ix,ic,is⟩:=item;obtain⟨kk,kx,kc,ks⟩:=df;obtain⟨cO,cB,cZ,cK⟩:=R1;obtain⟨bZ,bW,cu,bY⟩:=R2;obtain⟨rk,rx,rc,rs⟩:=R3;simp only[Z9.kind,Z9.text,Z9.cols,Z9.kids] at *;obtain⟨q1,q2,q3⟩:=aQ.out;subst bZ bW cu;clear aQ;generalize aj:(w.alloc (Obj.cells #[.int .i64 tk,.string tx,.int .i64 tc,.slice (some ⟨g,o,none⟩) ts.length cap] 24)).alloc (Obj.cells #[.int .i64 0,.string ⟨#[]⟩,.int .i64 0,.slice none 0 0] 24)=W0;have aA:W0.heap.size=w.heap.size+1+1:=by rw[<-aj];simp
  have ae:Below w.heap.size w W0:=by rw[<-aj];exact Zy (ZW _ _) _
  have bD:ZI W0 w.heap.size tk tx tc (.slice (some ⟨g,o,none⟩) ts.length cap):=by
   rw[<-aj];exact(ZI.new w _ _ _ _ _).below (ZW _ _) (by simp)
  have az:ZI W0 (w.heap.size+1) 0 ⟨#[]⟩ 0 (.slice none 0 0)/\Yy W0 (w.heap.size+1):=by
   rw[<-aj];have h:=ZI.new (w.alloc (Obj.cells #[.int .i64 tk,.string tx,.int .i64 tc,.slice (some ⟨g,o,none⟩) ts.length cap] 24)) 0 ⟨#[]⟩ 0 (.slice none 0 0) 24;have h2:=Yy.new (w.alloc (Obj.cells #[.int .i64 tk,.string tx,.int .i64 tc,.slice (some ⟨g,o,none⟩) ts.length cap] 24)) #[.int .i64 0,.string ⟨#[]⟩,.int .i64 0,.slice none 0 0] 24;exact⟨by simpa using h,by simpa using h2⟩
  have KC:Hid (∀W,Below W0.heap.size W0 W->ZI W w.heap.size tk tx tc (.slice (some ⟨g,o,none⟩) ts.length cap)/\ZI W (w.heap.size+1) 0 ⟨#[]⟩ 0 (.slice none 0 0)/\Yy W (w.heap.size+1)/\Below w.heap.size w W):=fun W h=>⟨bD.below h (by omega),az.1.below h (by omega),az.2.below h (by omega),ae.trans (h.mono ae.size)⟩
  have aT:=hid aA;have dD:=hid ae;obtain⟨⟨t0,t1,t2,t3⟩,⟨d0,d1,d2,d3⟩,p0,p1⟩:=KO.out W0 ae;obtain⟨m0,m1,m2,m3⟩:=bD;clear aA ae az;go_enter Tryz.func66,Tryz.ntmps66
  go_wp2_with fail
  go_region_held3 (fun w'=>w'.cell? ⟨w.heap.size,3,none⟩=some (.slice (some ⟨g,o,none⟩) ts.length cap)/\w'.cell? ⟨gp,op,none⟩=some (.int .i64 i')/\w'.cell? ⟨g,o+i'*4,none⟩=some (.int .i64 ik)/\w'.cell? ⟨g,o+i'*4+1,none⟩=some (.string ix)/\w'.cell? ⟨g,o+i'*4+2,none⟩=some (.int .i64 ic)/\w'.cell? ⟨g,o+i'*4+3,none⟩=some (.slice (some ⟨gk,ok,none⟩) is.length c1)) (go_keep) (fail)
  have bq:Hid (Below w.heap.size w (W0.alloc (Obj.cells #[.int .i64 ik,.string ix,.int .i64 ic,.slice (some ⟨gk,ok,none⟩) is.length c1] 24)).drew):=Xj (Zy dD.out _);obtain⟨X,hX⟩:∃X,(W0.alloc (Obj.cells #[.int .i64 ik,.string ix,.int .i64 ic,.slice (some ⟨gk,ok,none⟩) is.length c1] 24)).drew=X:=⟨_,rfl⟩;have bG:ZI X W0.heap.size ik ix ic (.slice (some ⟨gk,ok,none⟩) is.length c1):=by rw[<-hX];exact ZI.new _ _ _ _ _ _
  have aZ:Below W0.heap.size W0 X:=by rw[<-hX];exact Xj (ZW _ _)
  have bJ:X.heap.size=w.heap.size+1+1+1:=by rw[<-hX];have:=aT.out;simp[World.drew];omega
  rw[hX] at bq ⊢;clear hX t0 t1 t2 t3 d0 d1 d2 d3 p0 p1 m0 m1 m2 m3;have KX:Hid (∀W,Below X.heap.size X W->ZI W w.heap.size tk tx tc (.slice (some ⟨g,o,none⟩) ts.length cap)/\ZI W W0.heap.size ik ix ic (.slice (some ⟨gk,ok,none⟩) is.length c1)/\ZI W (w.heap.size+1) 0 ⟨#[]⟩ 0 (.slice none 0 0)/\Yy W (w.heap.size+1)/\Below w.heap.size w W):=fun W hW=>by
   obtain⟨h1,h2,h3,h4⟩:=KC.out W (aZ.trans (hW.mono aZ.size));exact⟨h1,bG.below hW (by have:=aT.out;omega),h2,h3,h4⟩
  have bN:=hid bJ;obtain⟨⟨t0,t1,t2,t3⟩,⟨d0,d1,d2,d3⟩,p0,p1⟩:=KO.out X bq.out;obtain⟨⟨m0,m1,m2,m3⟩,⟨n0,n1,n2,n3⟩,_⟩:=KX.out X (Qg _ _);clear bJ bG aZ;have ne1:¬(w.heap.size+1=gp):=by have h9:gp<w.heap.size:=bB;omega
  have ne2:¬(w.heap.size+1=gk):=by have h9:=aP.out _ bC;omega
  have ne3:¬(w.heap.size+1=W0.heap.size):=by have h9:=aT.out;omega
  go_wp2_with fail
  go_region_held3 (fun w'=>(w'.cell? ⟨w.heap.size,0,none⟩=some (.int .i64 tk)/\w'.cell? ⟨w.heap.size,1,none⟩=some (.string tx)/\w'.cell? ⟨w.heap.size,2,none⟩=some (.int .i64 tc)/\w'.cell? ⟨w.heap.size,3,none⟩=some (.slice (some ⟨g,o,none⟩) ts.length cap))/\w'.cell? ⟨gp,op,none⟩=some (.int .i64 i')/\w'.cell? ⟨gp,op+1,none⟩=some (.int .i64 k') /\
    (w'.cell? ⟨W0.heap.size,0,none⟩=some (.int .i64 ik)/\w'.cell? ⟨W0.heap.size,1,none⟩=some (.string ix)/\w'.cell? ⟨W0.heap.size,2,none⟩=some (.int .i64 ic)/\w'.cell? ⟨W0.heap.size,3,none⟩=some (.slice (some ⟨gk,ok,none⟩) is.length c1)) /\
    (w'.cell? ⟨gk,ok+k'*4,none⟩=some (.int .i64 kk)/\w'.cell? ⟨gk,ok+k'*4+1,none⟩=some (.string kx)/\w'.cell? ⟨gk,ok+k'*4+2,none⟩=some (.int .i64 kc)/\w'.cell? ⟨gk,ok+k'*4+3,none⟩=some (.slice A2 ks.length c2))) (go_keep) (first
   |(go_at_call 66;refine(C1.out _ (Xj bq.out)).mono ?_;intro e w1 h1;obtain⟨v1,rfl,aX,bI⟩:∃v,e=.returned (.agg #[.int .i64 cO,.string cB,.int .i64 cZ,v])/\Z8 Z6 w1 (NS S X.heap.size w1) cK v/\Below X.heap.size X w1:=by { obtain⟨v,e1,e2,e3⟩:=XC.ns h1 (b:=X.heap.size) (Qi _);exact⟨v,e1,e2,Xo e3⟩ };obtain⟨A4,c4,rfl⟩:=aX.form;have bP:=hid aX;have bz:=hid bI;clear bI aX;obtain⟨⟨k0,k1,k2,k3⟩,⟨n0,n1,n2,n3⟩,_,_,aa⟩:=KX.out w1 bz.out;have dB:=hid aa;obtain⟨⟨t0,t1,t2,t3⟩,⟨d0,d1,d2,d3⟩,p0,p1⟩:=KO.out w1 aa;clear aa)
   |(go_at_call 80;refine(C2.out _ X.heap.size _ dB.out bP.out _ _ rfl).mono ?_;intro e w2 h2;obtain⟨v2,rfl,aW,aM⟩:∃v,e=.returned (.agg #[.int .i64 ik,.string ix,.int .i64 ic,v])/\Z8 Z6 w2 (NS S X.heap.size w2) bY v/\Below w1.heap.size w1 w2:=XC.ns2 h2 bz.out.size;obtain⟨A5,c5,rfl⟩:=aW.form;have aQ:=hid aW;have bu:=hid (Zo bz.out aM);clear aM aW bP;obtain⟨⟨k0,k1,k2,k3⟩,⟨n0,n1,n2,n3⟩,_,_,aa⟩:=KX.out w2 bu.out;have dA:=hid aa;obtain⟨⟨t0,t1,t2,t3⟩,⟨d0,d1,d2,d3⟩,p0,p1⟩:=KO.out w2 aa;clear aa)
   |(go_at_call 80;refine(C3.out _ X.heap.size _ dA.out aQ.out _ _ rfl).mono ?_;intro e w3 h3;obtain⟨v3,rfl,aV,bH⟩:∃v,e=.returned (.agg #[.int .i64 rk,.string rx,.int .i64 rc,v])/\Z8 Z6 w3 (NS S X.heap.size w3) rs v/\Below w2.heap.size w2 w3:=XC.ns2 h3 bu.out.size;obtain⟨A6,c6,rfl⟩:=aV.form;have dx:=hid aV;have dC:=hid (Zo bu.out bH);clear bH aV aQ;obtain⟨⟨k0,k1,k2,k3⟩,⟨n0,n1,n2,n3⟩,aD,⟨f0,f1,f2,f3⟩,aa⟩:=KX.out w3 dC.out;have af:=hid aD;obtain⟨r0,r1,r2,r3⟩:=aD;have dz:=hid aa;obtain⟨⟨t0,t1,t2,t3⟩,⟨d0,d1,d2,d3⟩,p0,p1⟩:=KO.out w3 aa;clear aa))
  all_goals
   go_wp2_with fail
   generalize hZ:((((w3.setCell _ (.int .i64 rk)).setCell _ (.string rx)).setCell _ (.int .i64 rc)).setCell _ (.slice A6 rs.length c6))=Z;obtain⟨⟨e0,e1,e2,e3⟩,aS,aO,aN,_,_⟩:=Xy (o:=0) af.out.1 af.out.2.1 af.out.2.2.1 af.out.2.2.2 _ _ _ _ hZ.symm;simp only[Nat.zero_add] at e1 e2 e3;have bn:=hid (aO w.heap.size w (by omega) dz.out);have bg:=hid aN;have bM:=hid aS;clear hZ aS aO aN;refine bodyPost_ret (v:=.agg #[.int .i64 rk,.string rx,.int .i64 rc,.slice A6 rs.length c6]) (by simp[results,Tryz.results66,go_sem,e0,e1,e2,e3]) rfl ?_;have bN:=bN.out;have bM:=bM.out;refine⟨_,rfl,dx.out.keep (fun q hq=>bg.out q ?_) (fun q hq=>?_),bn.out⟩
   ·rcases hq with hq|hq
    ·have:=aP.out _ hq;omega
    omega
   rcases hq with hq|hq
   ·exact .inl hq
   exact .inr ⟨by omega,by omega⟩
def Ye (l:List Z9) (slot:Int):Bool:=decide (l.length=1)&&(ZU (Z7 l)&&(decide (0<=slot)&&(decide (slot<(l.headD ZN).kids.length)&&decide ((ZZ (l.headD ZN) slot).kids.length=0))))
theorem zKw (l:List Z9) (slot:Int) (A:Option Addr) (cap:Nat) (w:World) (hv:Z8 Z6 w (Lt w.heap.size) l (.slice A l.length cap)) (au:ZQ l<=1000000) :
  Calls Tryz.prog 102 #[.slice A l.length cap,.int .i64 slot] w fun e w'=>e=.returned (.bool (Ye l slot))/\Below w.heap.size w w':=by
 by_cases h1:l.length=1;rotate_left
 ·have hf:Ye l slot=false:=by unfold Ye;simp[h1]
  rw[hf];have i0:((l.length:Int)==1)=false:=by simp;omega
  clear hv au hf;go_enter Tryz.func102,Tryz.ntmps102
  go_wp2_with fail
  go_ret;exact⟨rfl,Qg _ _⟩
 obtain⟨t,rfl⟩:∃t,l=[t]:=List.length_eq_one_iff.1 h1;clear h1;have C1:=zFi [t] A cap w hv (by omega);have av:=hid C1;clear C1;simp only[List.length_cons,List.length_nil,Nat.zero_add] at hv av ⊢;have aC:=hv;obtain⟨_,_,rs0,hq,_,_,ag,ah⟩:=aC;cases hq;obtain⟨g,o,A1,c1,rs1,rfl,hg,t0,t1,t2,t3,b1,b2,b3,b4,b5,ae,af⟩:=YW ag ah (k:=0) (by simp);simp only[Nat.zero_mul,Nat.add_zero,List.getElem_cons_zero] at t0 t1 t2 t3 b1 b2 b3 b4 b5 ae af;have aD:g<w.heap.size:=hg;have aB:Hid (∀W,Below w.heap.size w W->W.cell? ⟨g,o+3,none⟩=some (.slice A1 t.kids.length c1)):=fun W hW=>(hW.cell (p:=⟨g,_,none⟩) aD).trans t3
 have hS:Ye [t] slot=(ZU (Z7 [t])&&(decide (0<=slot)&&(decide (slot<t.kids.length)&&decide ((ZZ t slot).kids.length=0)))):=by unfold Ye;simp
 rw[hS];generalize ZU (Z7 [t])=bv at *;cases bv
 ·clear hv au ag ah ae af t0 t1 t2 t3 hS;go_enter Tryz.func102,Tryz.ntmps102
  go_wp2_with fail
  refine av.out.mono ?_;rintro e w1 ⟨rfl,aa⟩;have aj:=hid aa;clear aa
  go_wp2_with fail
  go_ret;exact⟨rfl,aj.out⟩
 by_cases h2:0<=slot;rotate_left
 ·have i1:decide (0<=slot)=false:=by simpa using h2
  rw[i1];clear hv au ag ah ae af t0 t1 t2 t3 hS;go_enter Tryz.func102,Tryz.ntmps102
  go_wp2_with fail
  refine av.out.mono ?_;rintro e w1 ⟨rfl,aa⟩;have aj:=hid aa;clear aa
  go_wp2_with fail
  go_ret;exact⟨rfl,aj.out⟩
 have i1:decide (0<=slot)=true:=by simpa using h2
 by_cases h3:slot<t.kids.length;rotate_left
 ·have i2:decide (slot<(t.kids.length:Int))=false:=by simpa using h3
  rw[i1,i2];clear hv au ag ah ae af t0 t1 t2 t3 hS;go_enter Tryz.func102,Tryz.ntmps102
  go_wp2_with fail
  refine av.out.mono ?_;rintro e w1 ⟨rfl,aa⟩;have aj:=hid aa;have t3:=aB.out w1 aa;clear aa
  go_wp2_with fail
  go_ret;exact⟨rfl,aj.out⟩
 have i2:decide (slot<(t.kids.length:Int))=true:=by simpa using h3
 obtain⟨s',aA⟩:∃s':Nat,slot=s':=⟨slot.toNat,by omega⟩;have h4:s'<t.kids.length:=by omega
 obtain⟨g2,o2,A2,c2,rs2,rfl,aF,d0,d1,d2,d3,a1,a2,a3,a4,a5,ax,ay⟩:=YW ae af h4;have az:g2<w.heap.size:=aF;have aG:Hid (∀W,Below w.heap.size w W->W.cell? ⟨g2,o2+s'*4+3,none⟩=some (.slice A2 t.kids[s'].kids.length c2)):=fun W hW=>(hW.cell (p:=⟨g2,_,none⟩) az).trans d3
 have ak:ZZ t slot=t.kids[s']:=by rw[aA];unfold ZZ;rw[Int.toNat_natCast,List.getD_eq_getElem?_getD,List.getElem?_eq_getElem h4];rfl
 rw[ak,i1,i2];have HF:Hid ((((t.kids[s'].kids.length:Nat):Int)==0)=decide (t.kids[s'].kids.length=0)):=by
  show _=_;rw[Bool.eq_iff_iff];simp
 subst aA;generalize t.kids[s'].kids.length=n2 at *;have hf:=HF.out;generalize decide (n2=0)=b4 at *;have i3:(s':Int)<(t.kids.length:Int):=by omega
 have i4:(0:Int)<=(s':Int):=by omega
 clear hv au ag ah ae af ax ay t0 t1 t2 t3 d0 d1 d2 d3 hS ak HF;cases b4
 all_goals
  go_enter Tryz.func102,Tryz.ntmps102
  go_wp2_with fail
  refine av.out.mono ?_;rintro e w1 ⟨rfl,aa⟩;have aj:=hid aa;have t3:=aB.out w1 aa;have d3:=aG.out w1 aa;clear aa
  go_wp2_with fail
  go_ret;exact⟨rfl,aj.out⟩
theorem WI (w:World) (o:Obj):Below w.heap.size w (w.alloc o):=ZW w o
theorem TJ {W X:World} (h:Below W.heap.size W X) (o:Obj):Below W.heap.size W (X.alloc o):=Zy h o
theorem YY (W:World) (arr:Array Value) (T:TypeId) (b o:Nat) (hb:b=W.heap.size):(W.alloc (.cells arr T)).cell? ⟨b,o,none⟩=arr[o]?:=ZT W arr T b o hb
theorem YK (W:World) (arr:Array Value) (T:TypeId) (b o:Nat) (hb:b=W.heap.size):(W.alloc (.cells arr T)).frozen? ⟨b,o,none⟩=false:=XG W arr T b o hb
theorem XP (W:World) (B:Obj) (b o:Nat) (x:Option Value) (hb:b<W.heap.size) (h:W.cell? ⟨b,o,none⟩=x):(W.alloc B).cell? ⟨b,o,none⟩=x:=oldC W B b o x hb h
theorem Xn (W:World) (arr:Array Value) (T:TypeId) (B:Obj) (b o:Nat) (hb:b=W.heap.size):((W.alloc (.cells arr T)).alloc B).cell? ⟨b,o,none⟩=arr[o]?:=by
 rw[(WI (W.alloc (.cells arr T)) B).cell (by simp;omega)];exact YY W arr T b o hb
def ZM (t:Z9) (p:List Int):Z9×Int:=if ZU t=false then (ZN,1) else if (ZP t p).2=false then (ZN,8) else ((ZP t p).1,0)
def RowP (S:Nat->Prop) (w:World) (k:Int) (x:ByteArray) (c:Int) (ts:List Z9) (er:Int) (e:Ending) (w':World):Prop :=
 ∃v,e=.returned (.tuple #[.agg #[.int .i64 k,.string x,.int .i64 c,v],.int .i64 er])/\Z8 Z6 w' S ts v/\Below w.heap.size w w'
theorem zF0 (t:Z9) (p:List Int) (A Ap:Option Addr) (cap cp:Nat) (w:World) (S:Nat->Prop) (hS:∀k,S k->k<w.heap.size) (hv:Z8 Z6 w S t.kids (.slice A t.kids.length cap)) (aM:t.text.size<=maxLen) (aQ:ZR t<=900000) (hp:Z0 w (Lt w.heap.size) p (.slice Ap p.length cp)) :
  Calls Tryz.prog 64 #[.agg #[.int .i64 t.kind,.string t.text,.int .i64 t.cols,.slice A t.kids.length cap],.slice Ap p.length cp] w (RowP S w (ZM t p).1.kind (ZM t p).1.text (ZM t p).1.cols (ZM t p).1.kids (ZM t p).2):=by
 have C1:Hid (∀W,Below w.heap.size w W->Calls Tryz.prog 29 #[.agg #[.int .i64 t.kind,.string t.text,.int .i64 t.cols,.slice A t.kids.length cap]] W fun e w'=>e=.returned (.bool (ZU t))/\Below W.heap.size W w'):=fun W hW=>QN t A cap W (hv.keep (fun q hq=>hW.cell (hS _ hq)) (fun q hq=>Qk (hS _ hq) hW.size)) aM (by omega)
 have C2:Hid (∀W,Below w.heap.size w W->Calls Tryz.prog 103 #[.agg #[.int .i64 t.kind,.string t.text,.int .i64 t.cols,.slice A t.kids.length cap],.slice Ap p.length cp] W (zOe S W (ZP t p))):=fun W hW=>UG t p W _ _ S (fun k h=>Qk (hS _ h) hW.size) (hv.keep (fun q hq=>hW.cell (hS _ hq)) (fun _ h=>h)) (hp.below hW hW.size)
 have HR:Hid (ZM t p=if ZU t=false then (ZN,1) else if (ZP t p).2=false then (ZN,8) else ((ZP t p).1,0)):=rfl;generalize ZM t p=r at *;generalize ZP t p=f at *;generalize ZU t=b1 at *;obtain⟨tk,tx,tc,ts⟩:=t;obtain⟨ft,b2⟩:=f;obtain⟨fk,fx,fc,fs⟩:=ft;obtain⟨⟨rk,rx,rc,rt⟩,re⟩:=r;simp only[Z9.kind,Z9.text,Z9.cols,Z9.kids] at *;have aO:=hid hS;clear hS hv aM aQ hp;generalize aJ:(w.alloc (Obj.cells #[.int .i64 tk,.string tx,.int .i64 tc,.slice A ts.length cap] 24)).alloc (.cells #[.int .i64 0,.string ⟨#[]⟩,.int .i64 0,.slice none 0 0] 24)=W0;have KB:Hid (∀W,Below W0.heap.size W0 W->(W.cell? ⟨w.heap.size,0,none⟩=some (.int .i64 tk)/\W.cell? ⟨w.heap.size,1,none⟩=some (.string tx)/\W.cell? ⟨w.heap.size,2,none⟩=some (.int .i64 tc)/\W.cell? ⟨w.heap.size,3,none⟩=some (.slice A ts.length cap)) /\
   (W.cell? ⟨w.heap.size+1,0,none⟩=some (.int .i64 0)/\W.cell? ⟨w.heap.size+1,1,none⟩=some (.string ⟨#[]⟩)/\W.cell? ⟨w.heap.size+1,2,none⟩=some (.int .i64 0)/\W.cell? ⟨w.heap.size+1,3,none⟩=some (.slice none 0 0)) /\
   (W.frozen? ⟨w.heap.size+1,0,none⟩=false/\W.frozen? ⟨w.heap.size+1,1,none⟩=false/\W.frozen? ⟨w.heap.size+1,2,none⟩=false/\W.frozen? ⟨w.heap.size+1,3,none⟩=false)/\Below w.heap.size w W/\w.heap.size+1<W.heap.size):=by
  intro W hW;have hz:W0.heap.size=w.heap.size+1+1:=by rw[<-aJ];simp
  have hc:=(bcell hW).1;have hf:=(bcell hW).2;have aN:Below w.heap.size w W0:=by rw[<-aJ];exact TJ (WI _ _) _
  refine⟨⟨(hc _ _ (by omega)).trans ?_,(hc _ _ (by omega)).trans ?_,(hc _ _ (by omega)).trans ?_,(hc _ _ (by omega)).trans ?_⟩,⟨(hc _ _ (by omega)).trans ?_,(hc _ _ (by omega)).trans ?_,(hc _ _ (by omega)).trans ?_,(hc _ _ (by omega)).trans ?_⟩,⟨(hf _ _ (by omega)).trans ?_,(hf _ _ (by omega)).trans ?_,(hf _ _ (by omega)).trans ?_,(hf _ _ (by omega)).trans ?_⟩,aN.trans (hW.mono aN.size),by have:=hW.size;omega⟩
  all_goals (rw[<-aJ];first|exact Xn _ _ _ _ _ _ rfl|exact YY _ _ _ _ _ (by simp)|exact YK _ _ _ _ _ (by simp))
 rcases b1 with _|_
 ·clear C2;obtain⟨⟨m0,m1,m2,m3⟩,⟨c0,c1,c2,c3⟩,⟨f0,f1,f2,f3⟩,ae,aD⟩:=KB.out W0 (Qg _ _);have au:=hid ae;clear ae;go_enter Tryz.func64,Tryz.ntmps64
  go_wp2_with fail
  refine(C1.out _ au.out).mono ?_;rintro e w1 ⟨rfl,ah⟩;clear m0 m1 m2 m3 c0 c1 c2 c3 f0 f1 f2 f3 aD;obtain⟨⟨m0,m1,m2,m3⟩,aF,⟨f0,f1,f2,f3⟩,aa,aL⟩:=KB.out w1 ah;have af:=hid ah;have ak:=hid aa;obtain⟨c0,c1,c2,c3⟩:=aF;have aB:=hid (Qh c0 (Qh c1 (Qh c2 c3)));clear ah aa
  go_wp2_with fail
  generalize hW:(((w1.setCell _ (.int .i64 0)).setCell _ (.string ⟨#[]⟩)).setCell _ (.int .i64 0)).setCell _ (.slice none 0 0)=W;obtain⟨⟨r0,r1,r2,r3⟩,rz,rb,ro,_⟩:=four aB.out.1 aB.out.2.1 aB.out.2.2.1 aB.out.2.2.2 _ _ _ _ hW.symm;have aC:=hid (rb w.heap.size w (by omega) ak.out);have aK:Hid (∀q:Addr,q.block≠w.heap.size+1->W.cell? q=(w1).cell? q):=ro;clear hW ro rb;refine bodyPost_ret (v:=.tuple #[.agg #[.int .i64 0,.string ⟨#[]⟩,.int .i64 0,.slice none 0 0],.int .i64 1]) (by simp[results,Tryz.results64,go_sem,r0,r1,r2,r3]) rfl ?_;have h:=HR.out;simp[ZN] at h;obtain⟨⟨h1,h2,h3,h4⟩,h5⟩:=h;rw[h1,h2,h3,h4,h5];exact⟨_,rfl,Z8.nil_ 0 (Qj _) none,aC.out⟩
 rcases b2 with _|_
 ·obtain⟨⟨m0,m1,m2,m3⟩,⟨c0,c1,c2,c3⟩,⟨f0,f1,f2,f3⟩,ae,aD⟩:=KB.out W0 (Qg _ _);have au:=hid ae;clear ae;go_enter Tryz.func64,Tryz.ntmps64
  go_wp2_with fail
  refine(C1.out _ au.out).mono ?_;rintro e w1 ⟨rfl,ah⟩;clear m0 m1 m2 m3 c0 c1 c2 c3 f0 f1 f2 f3 aD;obtain⟨⟨m0,m1,m2,m3⟩,aF,⟨f0,f1,f2,f3⟩,aa,aL⟩:=KB.out w1 ah;have af:=hid ah;have ak:=hid aa;obtain⟨c0,c1,c2,c3⟩:=aF;have aB:=hid (Qh c0 (Qh c1 (Qh c2 c3)));clear ah aa
  go_wp2_with fail
  refine(C2.out _ ak.out).mono ?_;intro e w2 h;obtain⟨v2,rfl,ay,aG⟩:∃v,e=.returned (.tuple #[.agg #[.int .i64 fk,.string fx,.int .i64 fc,v],.bool false])/\Z8 Z6 w2 S fs v/\Below w1.heap.size w1 w2:=h;obtain⟨A2,aj,rfl⟩:=ay.form;have aP:=hid ay;clear m0 m1 m2 m3 c0 c1 c2 c3 f0 f1 f2 f3 ay;have aA:=hid (af.out.trans (aG.mono af.out.size));obtain⟨⟨m0,m1,m2,m3⟩,aI,⟨f0,f1,f2,f3⟩,ag,aH⟩:=KB.out w2 aA.out;have az:=hid ag;obtain⟨c0,c1,c2,c3⟩:=aI;have ax:=hid (Qh c0 (Qh c1 (Qh c2 c3)));clear aG ag
  go_wp2_with fail
  generalize hW:(((w2.setCell _ (.int .i64 0)).setCell _ (.string ⟨#[]⟩)).setCell _ (.int .i64 0)).setCell _ (.slice none 0 0)=W;obtain⟨⟨r0,r1,r2,r3⟩,rz,rb,ro,_⟩:=four ax.out.1 ax.out.2.1 ax.out.2.2.1 ax.out.2.2.2 _ _ _ _ hW.symm;have aC:=hid (rb w.heap.size w (by omega) az.out);have aK:Hid (∀q:Addr,q.block≠w.heap.size+1->W.cell? q=w2.cell? q):=ro;have av:w.heap.size+1<W.heap.size:=by rw[rz];exact aH
  replace r0:=XP W (Obj.cells #[.int .i64 fk,.string fx,.int .i64 fc,.slice A2 fs.length aj] 24) _ _ _ av r0
  replace r1:=XP W (Obj.cells #[.int .i64 fk,.string fx,.int .i64 fc,.slice A2 fs.length aj] 24) _ _ _ av r1
  replace r2:=XP W (Obj.cells #[.int .i64 fk,.string fx,.int .i64 fc,.slice A2 fs.length aj] 24) _ _ _ av r2
  replace r3:=XP W (Obj.cells #[.int .i64 fk,.string fx,.int .i64 fc,.slice A2 fs.length aj] 24) _ _ _ av r3
  clear hW ro rb;refine bodyPost_ret (v:=.tuple #[.agg #[.int .i64 0,.string ⟨#[]⟩,.int .i64 0,.slice none 0 0],.int .i64 8]) (by simp[results,Tryz.results64,go_sem,r0,r1,r2,r3]) rfl ?_;have h:=HR.out;simp[ZN] at h;obtain⟨⟨h1,h2,h3,h4⟩,h5⟩:=h;rw[h1,h2,h3,h4,h5];exact⟨_,rfl,Z8.nil_ 0 (Qj _) none,TJ aC.out _⟩
 obtain⟨⟨m0,m1,m2,m3⟩,⟨c0,c1,c2,c3⟩,⟨f0,f1,f2,f3⟩,ae,aD⟩:=KB.out W0 (Qg _ _);have au:=hid ae;clear ae;go_enter Tryz.func64,Tryz.ntmps64
 go_wp2_with fail
 refine(C1.out _ au.out).mono ?_;rintro e w1 ⟨rfl,ah⟩;clear m0 m1 m2 m3 c0 c1 c2 c3 f0 f1 f2 f3 aD;obtain⟨⟨m0,m1,m2,m3⟩,aF,⟨f0,f1,f2,f3⟩,aa,aL⟩:=KB.out w1 ah;have af:=hid ah;have ak:=hid aa;obtain⟨c0,c1,c2,c3⟩:=aF;have aB:=hid (Qh c0 (Qh c1 (Qh c2 c3)));clear ah aa
 go_wp2_with fail
 refine(C2.out _ ak.out).mono ?_;intro e w2 h;obtain⟨v2,rfl,ay,aG⟩:∃v,e=.returned (.tuple #[.agg #[.int .i64 fk,.string fx,.int .i64 fc,v],.bool true])/\Z8 Z6 w2 S fs v/\Below w1.heap.size w1 w2:=h;obtain⟨A2,aj,rfl⟩:=ay.form;have aP:=hid ay;clear m0 m1 m2 m3 c0 c1 c2 c3 f0 f1 f2 f3 ay;have aA:=hid (af.out.trans (aG.mono af.out.size));obtain⟨⟨m0,m1,m2,m3⟩,aI,⟨f0,f1,f2,f3⟩,ag,aH⟩:=KB.out w2 aA.out;have az:=hid ag;obtain⟨c0,c1,c2,c3⟩:=aI;have ax:=hid (Qh c0 (Qh c1 (Qh c2 c3)));clear aG ag
 go_wp2_with fail
 generalize hW:(((w2.setCell _ (.int .i64 fk)).setCell _ (.string fx)).setCell _ (.int .i64 fc)).setCell _ (.slice A2 fs.length aj)=W;obtain⟨⟨r0,r1,r2,r3⟩,rz,rb,ro,_⟩:=four ax.out.1 ax.out.2.1 ax.out.2.2.1 ax.out.2.2.2 _ _ _ _ hW.symm;have aC:=hid (rb w.heap.size w (by omega) az.out);have aK:Hid (∀q:Addr,q.block≠w.heap.size+1->W.cell? q=w2.cell? q):=ro;have av:w.heap.size+1<W.heap.size:=by rw[rz];exact aH
 replace r0:=XP W (Obj.cells #[.int .i64 fk,.string fx,.int .i64 fc,.slice A2 fs.length aj] 24) _ _ _ av r0
 replace r1:=XP W (Obj.cells #[.int .i64 fk,.string fx,.int .i64 fc,.slice A2 fs.length aj] 24) _ _ _ av r1
 replace r2:=XP W (Obj.cells #[.int .i64 fk,.string fx,.int .i64 fc,.slice A2 fs.length aj] 24) _ _ _ av r2
 replace r3:=XP W (Obj.cells #[.int .i64 fk,.string fx,.int .i64 fc,.slice A2 fs.length aj] 24) _ _ _ av r3
 clear hW ro rb;refine bodyPost_ret (v:=.tuple #[.agg #[.int .i64 fk,.string fx,.int .i64 fc,.slice A2 fs.length aj],.int .i64 0]) (by simp[results,Tryz.results64,go_sem,r0,r1,r2,r3]) rfl ?_;have h:=HR.out;simp[ZN] at h;obtain⟨⟨h1,h2,h3,h4⟩,h5⟩:=h;rw[h1,h2,h3,h4,h5];exact⟨_,rfl,aP.out.keep (fun q hq=>((WI _ _).cell (Qk (aO.out _ hq) aC.out.size)).trans (aK.out q (Nat.ne_of_lt (Nat.lt_succ_of_lt (aO.out _ hq))))) (fun _ h=>h),TJ aC.out _⟩
