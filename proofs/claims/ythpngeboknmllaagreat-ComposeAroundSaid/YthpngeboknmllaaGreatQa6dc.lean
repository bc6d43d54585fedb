/- T -/
import Derived.Test.YthpngeboknmllaaGreatQ15e7
set_option linter.unusedVariables false
set_option linter.unusedSimpArgs false
set_option maxHeartbeats 8000000
set_option maxRecDepth 100000
namespace Go.Proofs.YthpngeboknmllaaGreat
open Go.RowKit
theorem ZZ.dr {N:Nat->Prop} {w W:World} (h:ZZ N w W):ZZ N w W.drew:=⟨h.os,h.tape,h.output,h.size,h.block⟩
def Q0 (OF:(List Int×Int×Int)×Int) (w:World) (t:Z9) (A:Option Addr) (cap:Nat) (p:List Int) (Ap:Option Addr) (cp:Nat) (m:List Int) (Am:Option Addr) (cm:Nat) (e:Ending) (w':World):Prop :=
 (OF.2≠0/\e=.returned (.tuple #[.agg #[.int .i64 0,.string ⟨#[]⟩,.int .i64 0,.slice none 0 0,.slice none 0 0,.slice none 0 0,.slice none 0 0,.int .i64 0,.int .i64 0,.slice none 0 0,.int .i64 0,.slice none 0 0,.bool false,.slice none 0 0,.int .i64 0,.int .i64 0,.int .i64 0,.string ⟨#[]⟩,.int .i64 0,.slice none 0 0],.int .i64 OF.2])/\Below w.heap.size w w') \/
 (OF.2=0/\∃q o Ar cr A1 Ai ci,p=q++[o]/\Z0 w' (U0 w w') OF.1.1 (.slice Ar OF.1.1.length cr)/\Z0 w' (Lt w.heap.size) q (.slice A1 q.length cp)/\Z8 Z7 w' (U0 w w') (ZR t q).1.kids (.slice Ai (ZR t q).1.kids.length ci)/\Below w.heap.size w w' /\
  (
   (q=[]/\e=.returned (.tuple #[.agg #[.int .i64 t.kind,.string t.text,.int .i64 t.cols,.slice A t.kids.length cap,.slice Ap p.length cp,.slice Am m.length cm,.slice Ar OF.1.1.length cr,.int .i64 OF.1.2.1,.int .i64 OF.1.2.2,.slice A1 q.length cp,.int .i64 o,.slice Ai (ZR t q).1.kids.length ci,.bool false,.slice none 0 0,.int .i64 0,.int .i64 0,.int .i64 0,.string ⟨#[]⟩,.int .i64 0,.slice none 0 0],.int .i64 0])) \/
   (∃q2 i s A2 A3 c3,q=q2++[i,s]/\Z0 w' (Lt w.heap.size) q2 (.slice A2 q2.length cp)/\Z8 Z7 w' (U0 w w') (Y6 t q2 i).1.kids (.slice A3 (Y6 t q2 i).1.kids.length c3)/\e=.returned (.tuple #[.agg #[.int .i64 t.kind,.string t.text,.int .i64 t.cols,.slice A t.kids.length cap,.slice Ap p.length cp,.slice Am m.length cm,.slice Ar OF.1.1.length cr,.int .i64 OF.1.2.1,.int .i64 OF.1.2.2,.slice A1 q.length cp,.int .i64 o,.slice Ai (ZR t q).1.kids.length ci,.bool true,.slice A2 q2.length cp,.int .i64 i,.int .i64 s,.int .i64 (Y6 t q2 i).1.kind,.string (Y6 t q2 i).1.text,.int .i64 (Y6 t q2 i).1.cols,.slice A3 (Y6 t q2 i).1.kids.length c3],.int .i64 0]))))
theorem WQ {fn:Func} {p u:Tmp} {ty:TypeId} (h:fn.results=#[.cell p ty,.tmp u]) (aa:Array Value) (P:Program) (w:World) (g:Nat) (t:TypeId) (cs:Array Value) (fr:Nat×Nat) (d:TypeDesc)
  (hp:aa.getD p undef=.pointer (some ⟨g,0,none⟩)) (hg:w.heap[g]?=some (.cells cs t fr)) (hd:(match d with|.struct _|.array _ _=>true|_=>false)=true) (hu:P.underlying ty=some d) (hi:(P.info? ty).map (·.size)=some cs.size) (x:Value) (hx:aa.getD u undef=x) :
  (results fn aa).run P w=.ok (.tuple #[.agg cs,x]) w:=by
 rw[results_cell_tmp h,hp,hx];simp[asAddr,run_loadVar_row w g t ty cs fr d hg hu (by cases d<;>simp_all) hi,Result.andThen]
theorem zGp {w:World} {S:Nat->Prop} {p:List Int} {A:Option Addr} {n c:Nat} (h:Z0 w S p (.slice A n c)) (h0:0<p.length):∃g o,A=some ⟨g,o,none⟩/\S g/\∀k (hk:k<p.length),w.cell? ⟨g,o+k,none⟩=some (.int .i64 p[k]):=by
 obtain⟨_,_,rs,hq,_,_,aa,ae⟩:=h;cases hq;obtain⟨e1,_⟩:=VD.1 ae;subst e1;obtain⟨g,o,e,hg,hc⟩:=aa (by simpa using h0);exact⟨g,o,e,hg,fun k hk=>hc k _ (by simp[hk])⟩
theorem zT8 (t:Z9) (p m:List Int) (A Ap Am:Option Addr) (cap cp cm:Nat) (w:World) (hv:Z8 Z7 w (Lt w.heap.size) t.kids (.slice A t.kids.length cap)) (bD:Zt t) (bZ:ZW t<=900000) (hp:Z0 w (Lt w.heap.size) p (.slice Ap p.length cp)) (hm:Z0 w (Lt w.heap.size) m (.slice Am m.length cm)) (bC:p.length<=100000) :
  Calls Tryz.prog 42 #[.agg #[.int .i64 t.kind,.string t.text,.int .i64 t.cols,.slice A t.kids.length cap],.agg #[.slice Ap p.length cp,.slice Am m.length cm]] w (Q0 (ZI t p m) w t A cap p Ap cp m Am cm):=by
 have C1:Hid (∀W,Below w.heap.size w W->Calls Tryz.prog 82 #[.agg #[.int .i64 t.kind,.string t.text,.int .i64 t.cols,.slice A t.kids.length cap],.agg #[.slice Ap p.length cp,.slice Am m.length cm]] W (X4 W (ZI t p m))):=fun W hW=>zPk t p m A Ap Am cap cp cm W (hv.below hW hW.size) bD.2.2 (hp.below hW hW.size) (hm.below hW hW.size)
 have C2:Hid (∀W q A1,Below w.heap.size w W->Z0 W (Lt W.heap.size) q (.slice A1 q.length cp)->Calls Tryz.prog 83 #[.agg #[.int .i64 t.kind,.string t.text,.int .i64 t.cols,.slice A t.kids.length cap],.slice A1 q.length cp] W (XC W (ZR t q).1 (ZR t q).2)):=fun W q A1 hW hq=>zKi t q A A1 cap cp W (hv.below hW hW.size) bD bZ hq
 have C3:Hid (∀W q A1 i,Below w.heap.size w W->Z0 W (Lt W.heap.size) q (.slice A1 q.length cp)->Calls Tryz.prog 84 #[.agg #[.int .i64 t.kind,.string t.text,.int .i64 t.cols,.slice A t.kids.length cap],.slice A1 q.length cp,.int .i64 i] W (XC W (Y6 t q i).1 (Y6 t q i).2)):=fun W q A1 i hW hq=>zQa t q i A A1 cap cp W (hv.below hW hW.size) bD bZ hq
 have eD:Hid ((ZI t p m).2=0->ZA t p=true):=fun h=>(VM h).2.1
 obtain⟨W0,aX⟩:∃W0,((w.alloc (.cells #[.int .i64 t.kind,.string t.text,.int .i64 t.cols,.slice A t.kids.length cap] 24)).alloc (.cells #[.slice Ap p.length cp,.slice Am m.length cm] 27)).alloc (.cells #[.int .i64 0,.string ⟨#[]⟩,.int .i64 0,.slice none 0 0,.slice none 0 0,.slice none 0 0,.slice none 0 0,.int .i64 0,.int .i64 0,.slice none 0 0,.int .i64 0,.slice none 0 0,.bool false,.slice none 0 0,.int .i64 0,.int .i64 0,.int .i64 0,.string ⟨#[]⟩,.int .i64 0,.slice none 0 0] 69)=W0:=⟨_,rfl⟩;have bg:Hid (W0.heap.size=w.heap.size+1+1+1):=by show _=_;rw[<-aX];simp
 have KB:Hid (∀W,Below W0.heap.size W0 W->(W.cell? ⟨w.heap.size,0,none⟩=some (.int .i64 t.kind)/\W.cell? ⟨w.heap.size,1,none⟩=some (.string t.text)/\W.cell? ⟨w.heap.size,2,none⟩=some (.int .i64 t.cols)/\W.cell? ⟨w.heap.size,3,none⟩=some (.slice A t.kids.length cap))/\(W.cell? ⟨w.heap.size+1,0,none⟩=some (.slice Ap p.length cp)/\W.cell? ⟨w.heap.size+1,1,none⟩=some (.slice Am m.length cm))/\Z5 W (w.heap.size+1+1) (.cells #[.int .i64 0,.string ⟨#[]⟩,.int .i64 0,.slice none 0 0,.slice none 0 0,.slice none 0 0,.slice none 0 0,.int .i64 0,.int .i64 0,.slice none 0 0,.int .i64 0,.slice none 0 0,.bool false,.slice none 0 0,.int .i64 0,.int .i64 0,.int .i64 0,.string ⟨#[]⟩,.int .i64 0,.slice none 0 0] 69)/\Below w.heap.size w W):=fun W hW=>by
  have hz:=bg.out;have bG:Z5 W w.heap.size (.cells #[.int .i64 t.kind,.string t.text,.int .i64 t.cols,.slice A t.kids.length cap] 24):=Z5.belowB (by rw[<-aX];exact((Z5.at0 _ _).al _).al _) hW (by omega);have dE:Z5 W (w.heap.size+1) (.cells #[.slice Ap p.length cp,.slice Am m.length cm] 27):=Z5.belowB (by rw[<-aX];exact(Z5.at1 _ _ _).al _) hW (by omega);have fw:Z5 W (w.heap.size+1+1) (.cells #[.int .i64 0,.string ⟨#[]⟩,.int .i64 0,.slice none 0 0,.slice none 0 0,.slice none 0 0,.slice none 0 0,.int .i64 0,.int .i64 0,.slice none 0 0,.int .i64 0,.slice none 0 0,.bool false,.slice none 0 0,.int .i64 0,.int .i64 0,.int .i64 0,.string ⟨#[]⟩,.int .i64 0,.slice none 0 0] 69):=Z5.belowB (by rw[<-aX];exact Z5.at2 _ _ _ _) hW (by omega);have dJ:Below w.heap.size w W0:=by rw[<-aX];exact Zq (Zq (ZX _ _) _) _
  exact⟨⟨bG.cell 0,bG.cell 1,bG.cell 2,bG.cell 3⟩,⟨dE.cell 0,dE.cell 1⟩,fw,dJ.trans (hW.mono dJ.size)⟩
 obtain⟨⟨m0,m1,m2,m3⟩,⟨n0,n1⟩,_,aV⟩:=KB.out W0 (QQ _ _);have dz:=hid aV;have HP:=hid hp;have eB:=hid bC;clear hv bD bZ hp hm aV bC;generalize ZI t p m=OF at *;obtain⟨⟨sr,sa,sb⟩,se⟩:=OF;simp only at *;go_enter Tryz.func42,Tryz.ntmps42
 go_wp2_with fail
 refine(C1.out _ dz.out).mono ?_;rintro e w1 ⟨vr,rfl,bB,cu⟩;simp only at bB ⊢;obtain⟨Ar,cr,rfl⟩:=bB.form;obtain⟨W1,bP⟩:∃W1,w1.alloc (.cells #[.slice Ar sr.length cr,.int .i64 sa,.int .i64 sb] 67)=W1:=⟨_,rfl⟩;have bM:Below w1.heap.size w1 W1:=by rw[<-bP];exact ZX _ _
 have bQ:Hid (Below W0.heap.size W0 W1):=cu.trans (bM.mono cu.size);have aL:Z5 W1 w1.heap.size (.cells #[.slice Ar sr.length cr,.int .i64 sa,.int .i64 sb] 67):=by rw[<-bP];exact Z5.at0 _ _
 have s0:=aL.cell 0;have s1:=aL.cell 1;have s2:=aL.cell 2;simp only[List.getElem?_toArray,List.getElem?_cons_zero,List.getElem?_cons_succ] at s0 s1 s2;have dZ:Hid (Z0 W1 (fun k=>W0.heap.size<=k/\k<W1.heap.size) sr (.slice Ar sr.length cr)):=bB.keep (fun q hq=>bM.cell hq.2) (fun k hk=>⟨hk.1,QV hk.2 bM.size⟩);have gm:=hid aL;clear m0 m1 m2 m3 n0 n1 bB cu bM aL;obtain⟨⟨m0,m1,m2,m3⟩,⟨n0,n1⟩,ay,aU⟩:=KB.out W1 bQ.out;have aC:=hid aU;have cK:=hid ay;clear ay aU
 go_upto_region 2 with fail
 try rw[bP]
 clear bP;by_cases aD:se=0;rotate_left
 ·have i9:(se==0)=false:=by simpa using aD
  have i9':(se != 0)=true:=by simpa using aD
  have fU:=hid aD;clear s0 s1 s2 m0 m1 m2 m3 n0 n1 aD
  go_wp2_with (first
   |fail
   |(refine wpList_store_row rfl 69 (.tmp 4) (.tmp 20) rfl (w.heap.size+1+1) _ rfl rfl 69 _ cK.out (by kernel_rfl) (by simp) (by simp[Value.oneCell']) ?_)
   |fail)
  refine bodyPost_ret (v:=.tuple #[.agg #[.int .i64 0,.string ⟨#[]⟩,.int .i64 0,.slice none 0 0,.slice none 0 0,.slice none 0 0,.slice none 0 0,.int .i64 0,.int .i64 0,.slice none 0 0,.int .i64 0,.slice none 0 0,.bool false,.slice none 0 0,.int .i64 0,.int .i64 0,.int .i64 0,.string ⟨#[]⟩,.int .i64 0,.slice none 0 0],.int .i64 se]) (WQ Tryz.results42 _ _ _ (w.heap.size+1+1) 69 _ (0,0) _ rfl (cK.out.row _) rfl Tryz.underlying69 (by kernel_rfl) _ rfl) rfl ?_;exact Or.inl ⟨fU.out,rfl,YV aC.out (by omega) _⟩
 have aB:=eD.out aD;obtain⟨q,o,aG⟩:∃q o,p=q++[o]:=by
  rcases List.eq_nil_or_concat p with rfl|⟨q,o,rfl⟩
  ·simp[ZA] at aB
  exact⟨q,o,by simp⟩
 have aA:=zId _ _ (TE (aG ▸ aB)).1;subst aD;have aN:p.length=q.length+1:=by rw[aG];simp
 obtain⟨gp,op,rfl,bY,dH⟩:=zGp HP.out (by omega);have bY:gp<w.heap.size:=bY;have KP:Hid (∀W,Below w.heap.size w W->∀k (hk:k<p.length),W.cell? ⟨gp,op+k,none⟩=some (.int .i64 p[k])):=fun W hW k hk=>(hW.cell (p:=⟨gp,_,none⟩) bY).trans (dH k hk)
 have aS:p.length<=cp:=by obtain⟨_,_,_,hq,h1,_⟩:=HP.out;cases hq;exact h1
 obtain⟨A1,fu,hc1⟩:=UJ ZF Tryz.underlying25 XA (some ⟨gp,op,none⟩) p.length cp (q.length:Int) q.length rfl (by omega) aS;have HQ:Hid (∀W,Below w.heap.size w W->Z0 W (Lt w.heap.size) q (.slice A1 q.length cp)):=fun W hW=>by
  have h:=hc1 W (Lt w.heap.size) p (HP.out.keep (fun q hq=>hW.cell hq) (fun _ h=>h));have e:p.take q.length=q:=by rw[aG];simp
  rw[e] at h;exact h
 have v1:IntKind.i64.wrap ((p.length:Int)-1)=(q.length:Int):=by rw[show (p.length:Int)-1=(q.length:Int) by omega];have:=eB.out;exact IntWalk.i64_in _ (by omega)
 have i0:(0:Int)<=(q.length:Int):=by omega
 have i1:(q.length:Int)<(p.length:Int):=by omega
 have co:W1.cell? ⟨gp,op+q.length,none⟩=some (.int .i64 o):=by
  have h:=KP.out W1 aC.out q.length (by omega);have e:p[q.length]'(by omega)=o:=by simp[aG]
  rw[e] at h;exact h
 have bi:=hid aG;have dh:=hid aN;have gq:=hid aA;clear aS hc1 dH aB aG aN aA
 go_wp2_with fail
 refine wp_region_held_drew (S:=(fun w'=>w'.cell? ⟨w.heap.size,0,none⟩=some (.int .i64 t.kind)/\w'.cell? ⟨w.heap.size,1,none⟩=some (.string t.text)/\w'.cell? ⟨w.heap.size,2,none⟩=some (.int .i64 t.cols)/\w'.cell? ⟨w.heap.size,3,none⟩=some (.slice A t.kids.length cap)/\w'.cell? ⟨w.heap.size+1,0,none⟩=some (.slice (some ⟨gp,op,none⟩) p.length cp)/\w'.cell? ⟨w.heap.size+1,1,none⟩=some (.slice Am m.length cm)/\w'.cell? ⟨w1.heap.size,0,none⟩=some (.slice Ar sr.length cr)/\w'.cell? ⟨w1.heap.size,1,none⟩=some (.int .i64 sa)/\w'.cell? ⟨w1.heap.size,2,none⟩=some (.int .i64 sb)/\w'.cell? ⟨gp,op+q.length,none⟩=some (.int .i64 o))) rfl ⟨m0,m1,m2,m3,n0,n1,s0,s1,s2,co⟩ (fun hHeld=>?_);refine wpAnyH_take (i:=0) (oi:=⟨some 26,_,_,_,_,_⟩) (v:=?_) rfl (by kernel_rfl) (by kernel_rfl) (by kernel_rfl) (fun _ _ _ h=>h) (Or.inl ⟨by rfl,?_⟩) hHeld ?_;rotate_left
 ·(intro w ae;obtain⟨t0,t1,t2,t3,t4,t5,t6,t7,t8,t9⟩:=ae;go_simp;try with_reducible rfl)
 try simp only[qP,qN,qS,qZ,qC]
 refine wpAnyH_take (i:=1) (oi:=⟨some 27,_,_,_,_,_⟩) (v:=?_) rfl (by kernel_rfl) (by kernel_rfl) (by kernel_rfl) (fun _ _ _ h=>h) (Or.inl ⟨by rfl,?_⟩) hHeld ?_;rotate_left
 ·(intro w ae;obtain⟨t0,t1,t2,t3,t4,t5,t6,t7,t8,t9⟩:=ae;go_simp;try with_reducible rfl)
 try simp only[qP,qN,qS,qZ,qC]
 refine wpAnyH_take (i:=2) (oi:=⟨some 28,_,_,_,_,_⟩) (v:=?_) rfl (by kernel_rfl) (by kernel_rfl) (by kernel_rfl) (fun _ _ _ h=>h) (Or.inl ⟨by rfl,?_⟩) hHeld ?_;rotate_left
 ·(intro w ae;obtain⟨t0,t1,t2,t3,t4,t5,t6,t7,t8,t9⟩:=ae;go_simp;try with_reducible rfl)
 try simp only[qP,qN,qS,qZ,qC]
 refine wpAnyH_take (i:=3) (oi:=⟨some 29,_,_,_,_,_⟩) (v:=?_) rfl (by kernel_rfl) (by kernel_rfl) (by kernel_rfl) (fun _ _ _ h=>h) (Or.inl ⟨by rfl,?_⟩) hHeld ?_;rotate_left
 ·(intro w ae;obtain⟨t0,t1,t2,t3,t4,t5,t6,t7,t8,t9⟩:=ae;go_simp;try with_reducible rfl)
 try simp only[qP,qN,qS,qZ,qC]
 refine wpAnyH_take (i:=4) (oi:=⟨some 30,_,_,_,_,_⟩) (v:=?_) rfl (by kernel_rfl) (by kernel_rfl) (by kernel_rfl) (fun _ _ _ h=>h) (Or.inl ⟨by rfl,?_⟩) hHeld ?_;rotate_left
 ·(intro w ae;obtain⟨t0,t1,t2,t3,t4,t5,t6,t7,t8,t9⟩:=ae;go_simp;try with_reducible rfl)
 try simp only[qP,qN,qS,qZ,qC]
 refine wpAnyH_take (i:=5) (oi:=⟨some 31,_,_,_,_,_⟩) (v:=?_) rfl (by kernel_rfl) (by kernel_rfl) (by kernel_rfl) (fun _ _ _ h=>h) (Or.inl ⟨by rfl,?_⟩) hHeld ?_;rotate_left
 ·(intro w ae;obtain⟨t0,t1,t2,t3,t4,t5,t6,t7,t8,t9⟩:=ae;go_simp;try with_reducible rfl)
 try simp only[qP,qN,qS,qZ,qC]
 refine wpAnyH_take (i:=6) (oi:=⟨some 32,_,_,_,_,_⟩) (v:=?_) rfl (by kernel_rfl) (by kernel_rfl) (by kernel_rfl) (fun _ _ _ h=>h) (Or.inl ⟨by rfl,?_⟩) hHeld ?_;rotate_left
 ·(intro w ae;obtain⟨t0,t1,t2,t3,t4,t5,t6,t7,t8,t9⟩:=ae;go_simp;try with_reducible rfl)
 try simp only[qP,qN,qS,qZ,qC]
 refine wpAnyH_take (i:=7) (oi:=⟨some 33,_,_,_,_,_⟩) (v:=?_) rfl (by kernel_rfl) (by kernel_rfl) (by kernel_rfl) (fun _ _ _ h=>h) (Or.inl ⟨by rfl,?_⟩) hHeld ?_;rotate_left
 ·(intro w ae;obtain⟨t0,t1,t2,t3,t4,t5,t6,t7,t8,t9⟩:=ae;go_simp;try with_reducible rfl)
 try simp only[qP,qN,qS,qZ,qC]
 refine wpAnyH_take (i:=8) (oi:=⟨some 34,_,_,_,_,_⟩) (v:=?_) rfl (by kernel_rfl) (by kernel_rfl) (by kernel_rfl) (fun _ _ _ h=>h) (Or.inl ⟨by rfl,?_⟩) hHeld ?_;rotate_left
 ·(intro w ae;obtain⟨t0,t1,t2,t3,t4,t5,t6,t7,t8,t9⟩:=ae;go_simp;try with_reducible rfl)
 try simp only[qP,qN,qS,qZ,qC]
 refine wpAnyH_take (i:=9) (oi:=⟨some 35,_,_,_,_,_⟩) (v:=?_) rfl (by kernel_rfl) (by kernel_rfl) (by kernel_rfl) (fun _ _ _ h=>h) (Or.inl ⟨by rfl,?_⟩) hHeld ?_;rotate_left
 ·(intro w ae;obtain⟨t0,t1,t2,t3,t4,t5,t6,t7,t8,t9⟩:=ae;go_simp;try with_reducible rfl)
 try simp only[qP,qN,qS,qZ,qC]
 refine wpAnyH_take (i:=10) (oi:=⟨some 36,_,_,_,_,_⟩) (v:=?_) rfl (by kernel_rfl) (by kernel_rfl) (by kernel_rfl) (fun _ _ _ h=>h) (Or.inl ⟨by rfl,?_⟩) hHeld ?_;rotate_left
 ·(intro w ae;obtain⟨t0,t1,t2,t3,t4,t5,t6,t7,t8,t9⟩:=ae;go_simp;try with_reducible rfl)
 try simp only[qP,qN,qS,qZ,qC]
 refine wpAnyH_take (i:=11) (oi:=⟨some 37,_,_,_,_,_⟩) (v:=?_) rfl (by kernel_rfl) (by kernel_rfl) (by kernel_rfl) (fun _ _ _ h=>h) (Or.inl ⟨by rfl,?_⟩) hHeld ?_;rotate_left
 ·(intro w ae;obtain⟨t0,t1,t2,t3,t4,t5,t6,t7,t8,t9⟩:=ae;go_simp;try with_reducible rfl)
 try simp only[qP,qN,qS,qZ,qC]
 refine wpAnyH_take (i:=12) (oi:=⟨some 38,_,_,_,_,_⟩) (v:=?_) rfl (by kernel_rfl) (by kernel_rfl) (by kernel_rfl) (fun _ _ _ h=>h) (Or.inl ⟨by rfl,?_⟩) hHeld ?_;rotate_left
 ·(intro w ae;clear ae;go_simp;try with_reducible rfl)
 try simp only[qP,qN,qS,qZ,qC]
 refine wpAnyH_ready (rs:=[13]) (by kernel_rfl) (by simp) ?_;refine AllReadyH.cons (o:=⟨some 9,_,_,_,_,_⟩) rfl (fun K hK=>?_) AllReadyH.nil;go_simp;have hq:∀a:Addr,a.block<W1.heap.size->((W1.alloc (.cells #[.int .i64 0,.string ⟨#[]⟩,.int .i64 0,.slice none 0 0,.slice none 0 0,.slice none 0 0,.slice none 0 0,.int .i64 0,.int .i64 0,.slice none 0 0,.int .i64 0,.slice none 0 0,.bool false,.slice none 0 0,.int .i64 0,.int .i64 0,.int .i64 0,.string ⟨#[]⟩,.int .i64 0,.slice none 0 0] 69)).drew).cell? a=W1.cell? a:=fun a ha=>(ZX W1 _).cell ha
 refine hK.out _ _ ⟨(hq _ (Y2 m0)).trans m0,(hq _ (Y2 m1)).trans m1,(hq _ (Y2 m2)).trans m2,(hq _ (Y2 m3)).trans m3,(hq _ (Y2 n0)).trans n0,(hq _ (Y2 n1)).trans n1,(hq _ (Y2 s0)).trans s0,(hq _ (Y2 s1)).trans s1,(hq _ (Y2 s2)).trans s2,(hq _ (Y2 co)).trans co⟩ (fun ah=>?_);clear hK K hHeld;have hHeld:=ah;clear ah hq
 try simp only[qP,qN,qS,qZ,qC]
 refine wpAnyH_ready (rs:=[14]) (by kernel_rfl) (by simp) ?_;refine AllReadyH.cons (o:=⟨none,_,_,_,_,_⟩) rfl (fun K hK=>?_) AllReadyH.nil;rw[if_pos (by rfl)];have bW:Z5 ((W1.alloc (.cells #[.int .i64 0,.string ⟨#[]⟩,.int .i64 0,.slice none 0 0,.slice none 0 0,.slice none 0 0,.slice none 0 0,.int .i64 0,.int .i64 0,.slice none 0 0,.int .i64 0,.slice none 0 0,.bool false,.slice none 0 0,.int .i64 0,.int .i64 0,.int .i64 0,.string ⟨#[]⟩,.int .i64 0,.slice none 0 0] 69)).drew) W1.heap.size (.cells #[.int .i64 0,.string ⟨#[]⟩,.int .i64 0,.slice none 0 0,.slice none 0 0,.slice none 0 0,.slice none 0 0,.int .i64 0,.int .i64 0,.slice none 0 0,.int .i64 0,.slice none 0 0,.bool false,.slice none 0 0,.int .i64 0,.int .i64 0,.int .i64 0,.string ⟨#[]⟩,.int .i64 0,.slice none 0 0] 69):=(Z5.at0 _ _).dr;refine wp_store_row 69 (.tmp 9) (.tmp 38) rfl W1.heap.size #[.int .i64 t.kind,.string t.text,.int .i64 t.cols,.slice A t.kids.length cap,.slice (some ⟨gp,op,none⟩) p.length cp,.slice Am m.length cm,.slice Ar sr.length cr,.int .i64 sa,.int .i64 sb,.slice A1 q.length cp,.int .i64 o,.slice none 0 0,.bool false,.slice none 0 0,.int .i64 0,.int .i64 0,.int .i64 0,.string ⟨#[]⟩,.int .i64 0,.slice none 0 0] rfl rfl 69 _ bW (by kernel_rfl) (by simp) (by simp[Value.oneCell']) ?_;obtain⟨X,hX⟩:∃X,((W1.alloc (.cells #[.int .i64 0,.string ⟨#[]⟩,.int .i64 0,.slice none 0 0,.slice none 0 0,.slice none 0 0,.slice none 0 0,.int .i64 0,.int .i64 0,.slice none 0 0,.int .i64 0,.slice none 0 0,.bool false,.slice none 0 0,.int .i64 0,.int .i64 0,.int .i64 0,.string ⟨#[]⟩,.int .i64 0,.slice none 0 0] 69)).drew).setRow W1.heap.size #[.int .i64 t.kind,.string t.text,.int .i64 t.cols,.slice A t.kids.length cap,.slice (some ⟨gp,op,none⟩) p.length cp,.slice Am m.length cm,.slice Ar sr.length cr,.int .i64 sa,.int .i64 sb,.slice A1 q.length cp,.int .i64 o,.slice none 0 0,.bool false,.slice none 0 0,.int .i64 0,.int .i64 0,.int .i64 0,.string ⟨#[]⟩,.int .i64 0,.slice none 0 0]=X:=⟨_,rfl⟩
 have bI:Below W1.heap.size W1 X:=by rw[<-hX];exact YV (XF (ZX W1 _)) (QT _) _
 have aa:Z5 X W1.heap.size (.cells #[.int .i64 t.kind,.string t.text,.int .i64 t.cols,.slice A t.kids.length cap,.slice (some ⟨gp,op,none⟩) p.length cp,.slice Am m.length cm,.slice Ar sr.length cr,.int .i64 sa,.int .i64 sb,.slice A1 q.length cp,.int .i64 o,.slice none 0 0,.bool false,.slice none 0 0,.int .i64 0,.int .i64 0,.int .i64 0,.string ⟨#[]⟩,.int .i64 0,.slice none 0 0] 69):=by rw[<-hX];exact bW.row _
 have hq:∀a:Addr,a.block<W1.heap.size->X.cell? a=W1.cell? a:=fun a ha=>bI.cell ha
 rw[hX];refine hK.out _ _ ⟨(hq _ (Y2 m0)).trans m0,(hq _ (Y2 m1)).trans m1,(hq _ (Y2 m2)).trans m2,(hq _ (Y2 m3)).trans m3,(hq _ (Y2 n0)).trans n0,(hq _ (Y2 n1)).trans n1,(hq _ (Y2 s0)).trans s0,(hq _ (Y2 s1)).trans s1,(hq _ (Y2 s2)).trans s2,(hq _ (Y2 co)).trans co⟩ (fun ah=>?_);clear hK K hHeld ah hX bW
 try simp only[qP,qN,qS,qZ,qC]
 refine wpAnyH_done (by kernel_rfl) ?_ _;have dx:Hid (Below W0.heap.size W0 X):=bQ.out.trans (bI.mono bQ.out.size);have eH:Hid (ZZ (fun k=>k=W1.heap.size) W1 X):=ZZ.of_below bI _;have eF:=hid aa;have b9:=aa.cell 9;simp only[List.getElem?_toArray,List.getElem?_cons_zero,List.getElem?_cons_succ] at b9;have aI:=hid aa.lt;have ai:=hid bQ.out.size;clear m0 m1 m2 m3 n0 n1 s0 s1 s2 co hq bI aa fu cK aC gm;obtain⟨⟨m0,m1,m2,m3⟩,⟨n0,n1⟩,_,au⟩:=KB.out X dx.out;have HWX:=hid au;have eT:=hid (C2.out X q A1 au ((HQ.out X au).keep (fun _ _=>rfl) (fun k hk=>QV hk au.size)));clear au;generalize dK:ZR t q=RR at *;obtain⟨⟨rk,rt,rc,af⟩,re⟩:=RR;have ax:Hid ((ZR t q).1.kids=af):=by show _=_;rw[dK];rfl
 clear dK
 go_wp2_with fail
 refine eT.out.mono ?_;rintro e w5 ⟨v5,rfl,bA,bL⟩;simp only[Z9.kind,Z9.text,Z9.cols,Z9.kids] at bA ⊢;obtain⟨A5,c5,rfl⟩:=bA.form;obtain⟨W6,bN⟩:∃W6,w5.alloc (.cells #[.int .i64 rk,.string rt,.int .i64 rc,.slice A5 af.length c5] 24)=W6:=⟨_,rfl⟩;have bK:Below w5.heap.size w5 W6:=by rw[<-bN];exact ZX _ _
 have av:Below X.heap.size X W6:=bL.trans (bK.mono bL.size);have aM:Z5 W6 w5.heap.size (.cells #[.int .i64 rk,.string rt,.int .i64 rc,.slice A5 af.length c5] 24):=by rw[<-bN];exact Z5.at0 _ _
 have d3:=aM.cell 3;simp only[List.getElem?_toArray,List.getElem?_cons_zero,List.getElem?_cons_succ] at d3;have aa:=eF.out.belowB av aI.out;have dU:=aa.cell 11;simp only[List.getElem?_toArray,List.getElem?_cons_zero,List.getElem?_cons_succ] at dU;have fO:=aa.free 11;have ak:=aa.set (i:=11) (.slice A5 af.length c5);simp only[List.setIfInBounds_toArray,List.set_cons_zero,List.set_cons_succ] at ak;have bu:=hid ak;have ed:Hid (Z8 Z7 W6 (fun k=>X.heap.size<=k/\k<w5.heap.size) af (.slice A5 af.length c5)):=bA.keep (fun q hq=>bK.cell hq.2) (fun _ h=>h);have dX:Hid ((W6.setCell ⟨W1.heap.size,11,none⟩ (.slice A5 af.length c5)).heap.size=W6.heap.size):=by show _=_;simp[World.setCell]
 have eY:Hid (Below W0.heap.size W0 (W6.setCell ⟨W1.heap.size,11,none⟩ (.slice A5 af.length c5))):=(dx.out.trans (av.mono dx.out.size)).setCell (p:=⟨W1.heap.size,11,none⟩) ai.out _;have dm:Hid (ZZ (fun k=>k=W1.heap.size) W1 (W6.setCell ⟨W1.heap.size,11,none⟩ (.slice A5 af.length c5))):=((eH.out.trans (ZZ.of_below av (fun _=>False))).trans (ZZ.set _ _ _)).mono (fun k hk h=>by
  rcases h with (h|h)|h
  ·exact h
  ·exact h.elim
  exact h)
 have cO:Hid (Z8 Z7 (W6.setCell ⟨W1.heap.size,11,none⟩ (.slice A5 af.length c5)) (fun k=>X.heap.size<=k/\k<w5.heap.size) af (.slice A5 af.length c5)):=ed.out.keep (fun q hq=>World.cell?_setCell_other _ _ _ _ (by intro e;have h1:=hq.1;rw[<-e] at h1;exact absurd aI.out (Nat.not_lt.2 h1))) (fun _ h=>h);have dY:=hid bL.size;have eZ:=hid bK.size;clear b9 m0 m1 m2 m3 n0 n1 bA bL bK av aM aa ak eF ed
 go_upto_region 7 with fail
 try rw[bN]
 clear bN
 go_upto_region 8 with fail
 clear d3 dU fO;generalize (W6.setCell ⟨W1.heap.size,11,none⟩ (.slice A5 af.length c5))=W7 at *;obtain⟨⟨m0,m1,m2,m3⟩,⟨n0,n1⟩,ay,au⟩:=KB.out W7 eY.out;have cB:=hid au;have aH:=hid ay;clear au ay;have aJ:=bg.out;rcases Nat.eq_zero_or_pos q.length with bU|bU
 ·have dD:q=[]:=List.eq_nil_of_length_eq_zero bU;have i8:decide ((0:Int)<(q.length:Int))=false:=by rw[decide_eq_false_iff_not];omega
  have i8':¬(0<q.length):=by omega
  have HZ:=hid aJ;have fZ:=hid dD;clear bU aJ dD m0 m1 m2 m3 n0 n1
  go_wp2_with (first
   |(refine wpList_load_row rfl 69 (.tmp 9) rfl W1.heap.size rfl 69 #[.int .i64 t.kind,.string t.text,.int .i64 t.cols,.slice A t.kids.length cap,.slice (some ⟨gp,op,none⟩) p.length cp,.slice Am m.length cm,.slice Ar sr.length cr,.int .i64 sa,.int .i64 sb,.slice A1 q.length cp,.int .i64 o,.slice A5 af.length c5,.bool false,.slice none 0 0,.int .i64 0,.int .i64 0,.int .i64 0,.string ⟨#[]⟩,.int .i64 0,.slice none 0 0] (0,0) _ bu.out Tryz.underlying69 rfl (by kernel_rfl) ?_)
   |(refine wpList_store_row rfl 69 (.tmp 4) (.tmp 82) rfl (w.heap.size+1+1) #[.int .i64 t.kind,.string t.text,.int .i64 t.cols,.slice A t.kids.length cap,.slice (some ⟨gp,op,none⟩) p.length cp,.slice Am m.length cm,.slice Ar sr.length cr,.int .i64 sa,.int .i64 sb,.slice A1 q.length cp,.int .i64 o,.slice A5 af.length c5,.bool false,.slice none 0 0,.int .i64 0,.int .i64 0,.int .i64 0,.string ⟨#[]⟩,.int .i64 0,.slice none 0 0] rfl rfl 69 _ aH.out (by kernel_rfl) (by simp) (by simp[Value.oneCell']) ?_)
   |fail)
  refine bodyPost_ret (WQ Tryz.results42 _ _ _ (w.heap.size+1+1) 69 _ (0,0) _ rfl (aH.out.row _) rfl Tryz.underlying69 (by kernel_rfl) _ rfl) rfl ?_;have aJ:=HZ.out;have ag:∀(cs:Array Value) (a:Addr),a.block≠w.heap.size+1+1->(W7.setRow (w.heap.size+1+1) cs).cell? a=W7.cell? a:=fun cs a ha=>World.cell?_of_block (setRow_other _ _ _ _ ha)
  have fD:=ai.out;have fA:=aI.out;have fq:=dY.out;have dM:=eZ.out;have dB:=dX.out;have dG:=dm.out;have dC:=cB.out;exact Or.inr ⟨rfl,q,o,Ar,cr,A1,A5,c5,bi.out,
   dZ.out.keep (fun a ha=>(ag _ a (by have:=ha.1;omega)).trans (dG.cell ha.2 (Nat.ne_of_lt ha.2))) (fun k hk=>⟨by have:=hk.1;omega,by rw[size_setRow];exact QV hk.2 dG.size⟩),
   (HQ.out W7 dC).keep (fun a ha=>ag _ a (by have:a.block<w.heap.size:=ha;omega)) (fun _ h=>h),
   by rw[ax.out];exact cO.out.keep (fun a ha=>ag _ a (by have:=ha.1;omega)) (fun k hk=>⟨by have:=hk.1;omega,by rw[size_setRow,dB];exact QV hk.2 dM⟩),
   YV dC (by omega) _,.inl ⟨fZ.out,by rw[ax.out];rfl⟩⟩
 have i8:decide ((0:Int)<(q.length:Int))=true:=by rw[decide_eq_true_eq];omega
 obtain⟨q2,i,s,aF⟩:=zT2 (p:=q) (by have:=gq.out;omega);have fB:q.length=q2.length+2:=by rw[aF];simp
 have bC:=dh.out;have fC:=eB.out;have aS:p.length<=cp:=by obtain⟨_,_,_,hq,h1,_⟩:=HP.out;cases hq;exact h1
 obtain⟨A2,hs2,dI⟩:=UJ ZF Tryz.underlying25 XA (some ⟨gp,op,none⟩) p.length cp (q2.length:Int) q2.length rfl (by omega) aS;have eu:Hid (∀W,Below w.heap.size w W->Z0 W (Lt w.heap.size) q2 (.slice A2 q2.length cp)):=fun W hW=>by
  have h:=dI W (Lt w.heap.size) p (HP.out.keep (fun q hq=>hW.cell hq) (fun _ h=>h));have e:p.take q2.length=q2:=by rw[bi.out,aF];simp
  rw[e] at h;exact h
 have v2:IntKind.i64.wrap ((q.length:Int)-2)=(q2.length:Int):=by rw[show (q.length:Int)-2=(q2.length:Int) by omega];exact IntWalk.i64_in _ (by omega)
 have v3:IntKind.i64.wrap ((q.length:Int)-1)=(q2.length:Int)+1:=by rw[show (q.length:Int)-1=(q2.length:Int)+1 by omega];exact IntWalk.i64_in _ (by omega)
 have j0:(0:Int)<=(q2.length:Int):=by omega
 have j1:(q2.length:Int)<(p.length:Int):=by omega
 have j2:(0:Int)<=(q2.length:Int)+1:=by omega
 have j3:(q2.length:Int)+1<(p.length:Int):=by omega
 have ci:W7.cell? ⟨gp,op+q2.length,none⟩=some (.int .i64 i):=by
  have h:=KP.out W7 cB.out q2.length (by omega);have e:p[q2.length]'(by omega)=i:=by simp[bi.out,aF]
  rw[e] at h;exact h
 have cs:W7.cell? ⟨gp,op+(q2.length+1),none⟩=some (.int .i64 s):=by
  have h:=KP.out W7 cB.out (q2.length+1) (by omega);have e:p[q2.length+1]'(by omega)=s:=by simp[bi.out,aF]
  rw[e] at h;exact h
 have df:=hid aF;have eU:Hid (∀Y,Below w.heap.size w Y->Calls Tryz.prog 84 #[.agg #[.int .i64 t.kind,.string t.text,.int .i64 t.cols,.slice A t.kids.length cap],.slice A2 q2.length cp,.int .i64 i] Y (XC Y (Y6 t q2 i).1 (Y6 t q2 i).2)):=fun Y hY=>C3.out Y q2 A2 i hY ((eu.out Y hY).keep (fun _ _=>rfl) (fun k hk=>QV hk hY.size))
 have dn:=hid (rfl:(Y6 t q2 i).1=(Y6 t q2 i).1);generalize dL:Y6 t q2 i=II at eU;obtain⟨⟨ik,ix,ic,aj⟩,ie⟩:=II
 replace dn:Hid ((Y6 t q2 i).1=.mk ik ix ic aj):=by show _=_;rw[dL]
 clear dL;have aa:=bu.out;have dS:=aa.cell 12;have aZ:=aa.cell 13;have aY:=aa.cell 14;have dR:=aa.cell 15;simp only[List.getElem?_toArray,List.getElem?_cons_zero,List.getElem?_cons_succ] at dS aZ aY dR;have fM:=aa.free 12;have fK:=aa.free 13;have fJ:=aa.free 14;have fI:=aa.free 15;have ak:=(((aa.set (i:=12) (.bool true)).set (i:=13) (.slice A2 q2.length cp)).set (i:=14) (.int .i64 i)).set (i:=15) (.int .i64 s);simp only[List.setIfInBounds_toArray,List.set_cons_zero,List.set_cons_succ] at ak;have eQ:=hid ak;have dF:=(((dm.out.trans (ZZ.set W7 ⟨W1.heap.size,12,none⟩ (.bool true))).trans (ZZ.set _ ⟨W1.heap.size,13,none⟩ (.slice A2 q2.length cp))).trans (ZZ.set _ ⟨W1.heap.size,14,none⟩ (.int .i64 i))).trans (ZZ.set _ ⟨W1.heap.size,15,none⟩ (.int .i64 s));have eO:Hid (ZZ (fun k=>k=W1.heap.size) W1 ((((W7.setCell ⟨W1.heap.size,12,none⟩ (.bool true)).setCell ⟨W1.heap.size,13,none⟩ (.slice A2 q2.length cp)).setCell ⟨W1.heap.size,14,none⟩ (.int .i64 i)).setCell ⟨W1.heap.size,15,none⟩ (.int .i64 s))):=dF.mono (fun k hk h=>by
  rcases h with (((h|h)|h)|h)|h
  ·exact h
  ·exact h
  ·exact h
  ·exact h
  exact h)
 have eX:Hid (Below W0.heap.size W0 ((((W7.setCell ⟨W1.heap.size,12,none⟩ (.bool true)).setCell ⟨W1.heap.size,13,none⟩ (.slice A2 q2.length cp)).setCell ⟨W1.heap.size,14,none⟩ (.int .i64 i)).setCell ⟨W1.heap.size,15,none⟩ (.int .i64 s))):=(((eY.out.setCell (p:=⟨W1.heap.size,12,none⟩) ai.out _).setCell (p:=⟨W1.heap.size,13,none⟩) ai.out _).setCell (p:=⟨W1.heap.size,14,none⟩) ai.out _).setCell (p:=⟨W1.heap.size,15,none⟩) ai.out _;have az:∀a:Addr,a.block≠W1.heap.size->((((W7.setCell ⟨W1.heap.size,12,none⟩ (.bool true)).setCell ⟨W1.heap.size,13,none⟩ (.slice A2 q2.length cp)).setCell ⟨W1.heap.size,14,none⟩ (.int .i64 i)).setCell ⟨W1.heap.size,15,none⟩ (.int .i64 s)).cell? a=W7.cell? a:=fun a ha=>by
  rw[World.cell?_setCell_other _ _ _ _ (by intro e;exact ha (by rw[<-e])),World.cell?_setCell_other _ _ _ _ (by intro e;exact ha (by rw[<-e])),World.cell?_setCell_other _ _ _ _ (by intro e;exact ha (by rw[<-e])),World.cell?_setCell_other _ _ _ _ (by intro e;exact ha (by rw[<-e]))]
 have ek:Hid (Z8 Z7 ((((W7.setCell ⟨W1.heap.size,12,none⟩ (.bool true)).setCell ⟨W1.heap.size,13,none⟩ (.slice A2 q2.length cp)).setCell ⟨W1.heap.size,14,none⟩ (.int .i64 i)).setCell ⟨W1.heap.size,15,none⟩ (.int .i64 s)) (fun k=>X.heap.size<=k/\k<w5.heap.size) af (.slice A5 af.length c5)):=cO.out.keep (fun a ha=>az a (by have:=ha.1;have:=aI.out;omega)) (fun _ h=>h);have dV:Hid (((((W7.setCell ⟨W1.heap.size,12,none⟩ (.bool true)).setCell ⟨W1.heap.size,13,none⟩ (.slice A2 q2.length cp)).setCell ⟨W1.heap.size,14,none⟩ (.int .i64 i)).setCell ⟨W1.heap.size,15,none⟩ (.int .i64 s)).heap.size=W7.heap.size):=by show _=_;simp[World.setCell]
 clear aF fB bC fC aS dI aa ak dF az aJ bu;have fo:¬W1.heap.size=w.heap.size+1:=by have:=ai.out;have:=bg.out;omega
 have ne2:¬w.heap.size+1=W1.heap.size:=fun e=>fo e.symm
 have fe:¬W1.heap.size=gp:=by have:=ai.out;have:=bg.out;omega
 have ne4:¬gp=W1.heap.size:=fun e=>fe e.symm
 clear m0 m1 m2 m3 n1
 go_wp2_with fail
 clear C1 C2 C3 KP eD eT dm eH cO
 go_region
 obtain⟨Y,hY⟩:∃Y,((((W7.setCell ⟨W1.heap.size,12,none⟩ (.bool true)).setCell ⟨W1.heap.size,13,none⟩ (.slice A2 q2.length cp)).setCell ⟨W1.heap.size,14,none⟩ (.int .i64 i)).setCell ⟨W1.heap.size,15,none⟩ (.int .i64 s)).drew=Y:=⟨_,rfl⟩;rw[hY];have dw:Hid (Below W0.heap.size W0 Y):=by show Below _ _ _;rw[<-hY];exact XF eX.out
 have eG:Hid (ZZ (fun k=>k=W1.heap.size) W1 Y):=by show ZZ _ _ _;rw[<-hY];exact eO.out.dr
 have aQ:=eQ.out.dr;rw[hY] at aQ;have fV:Hid (Z8 Z7 Y (fun k=>X.heap.size<=k/\k<w5.heap.size) af (.slice A5 af.length c5)):=by show Z8 _ _ _ _ _;rw[<-hY];exact ek.out.keep (fun _ _=>rfl) (fun _ h=>h)
 have fP:Hid (Y.heap.size=W7.heap.size):=by show _=_;rw[<-hY];exact dV.out
 clear hY eQ ek dV eX eO dS aZ aY dR fM fK fJ fI n0 ci cs;have aZ:=aQ.cell 13;have aY:=aQ.cell 14;simp only[List.getElem?_toArray,List.getElem?_cons_zero,List.getElem?_cons_succ] at aZ aY;obtain⟨⟨m0,m1,m2,m3⟩,_,_,aT⟩:=KB.out Y dw.out;have fQ:=hid aT;have eP:=hid aQ;clear aT aQ
 go_wp2_with fail
 refine(eU.out Y fQ.out).mono ?_;rintro e w9 ⟨v9,rfl,bz,bJ⟩;simp only[Z9.kind,Z9.text,Z9.cols,Z9.kids] at bz ⊢;obtain⟨A9,c9,rfl⟩:=bz.form;have aa:=eP.out.below bJ;have dQ:=aa.cell 16;have dP:=aa.cell 17;have dO:=aa.cell 18;have dN:=aa.cell 19;simp only[List.getElem?_toArray,List.getElem?_cons_zero,List.getElem?_cons_succ] at dQ dP dO dN;have fH:=aa.free 16;have fG:=aa.free 17;have fF:=aa.free 18;have fE:=aa.free 19;have ak:=(((aa.set (i:=16) (.int .i64 ik)).set (i:=17) (.string ix)).set (i:=18) (.int .i64 ic)).set (i:=19) (.slice A9 aj.length c9);simp only[List.setIfInBounds_toArray,List.set_cons_zero,List.set_cons_succ] at ak;have aW:=dw.out.trans (bJ.mono dw.out.size);have dA:Hid (Below W0.heap.size W0 ((((w9.setCell ⟨W1.heap.size,16,none⟩ (.int .i64 ik)).setCell ⟨W1.heap.size,17,none⟩ (.string ix)).setCell ⟨W1.heap.size,18,none⟩ (.int .i64 ic)).setCell ⟨W1.heap.size,19,none⟩ (.slice A9 aj.length c9))):=(((aW.setCell (p:=⟨W1.heap.size,16,none⟩) ai.out _).setCell (p:=⟨W1.heap.size,17,none⟩) ai.out _).setCell (p:=⟨W1.heap.size,18,none⟩) ai.out _).setCell (p:=⟨W1.heap.size,19,none⟩) ai.out _;have aP:=((((ZZ.of_below bJ (fun k=>k=W1.heap.size)).trans (ZZ.set w9 ⟨W1.heap.size,16,none⟩ (.int .i64 ik))).trans (ZZ.set _ ⟨W1.heap.size,17,none⟩ (.string ix))).trans (ZZ.set _ ⟨W1.heap.size,18,none⟩ (.int .i64 ic))).trans (ZZ.set _ ⟨W1.heap.size,19,none⟩ (.slice A9 aj.length c9));have bn:Hid (ZZ (fun k=>k=W1.heap.size) Y ((((w9.setCell ⟨W1.heap.size,16,none⟩ (.int .i64 ik)).setCell ⟨W1.heap.size,17,none⟩ (.string ix)).setCell ⟨W1.heap.size,18,none⟩ (.int .i64 ic)).setCell ⟨W1.heap.size,19,none⟩ (.slice A9 aj.length c9))):=aP.mono (fun k hk h=>by
  rcases h with (((h|h)|h)|h)|h
  ·exact h
  ·exact h
  ·exact h
  ·exact h
  exact h)
 have aR:∀a:Addr,a.block≠W1.heap.size->((((w9.setCell ⟨W1.heap.size,16,none⟩ (.int .i64 ik)).setCell ⟨W1.heap.size,17,none⟩ (.string ix)).setCell ⟨W1.heap.size,18,none⟩ (.int .i64 ic)).setCell ⟨W1.heap.size,19,none⟩ (.slice A9 aj.length c9)).cell? a=w9.cell? a:=fun a ha=>by
  rw[World.cell?_setCell_other _ _ _ _ (by intro e;exact ha (by rw[<-e])),World.cell?_setCell_other _ _ _ _ (by intro e;exact ha (by rw[<-e])),World.cell?_setCell_other _ _ _ _ (by intro e;exact ha (by rw[<-e])),World.cell?_setCell_other _ _ _ _ (by intro e;exact ha (by rw[<-e]))]
 have aK:((((w9.setCell ⟨W1.heap.size,16,none⟩ (.int .i64 ik)).setCell ⟨W1.heap.size,17,none⟩ (.string ix)).setCell ⟨W1.heap.size,18,none⟩ (.int .i64 ic)).setCell ⟨W1.heap.size,19,none⟩ (.slice A9 aj.length c9)).heap.size=w9.heap.size:=by simp[World.setCell]
 have cZ:Hid (Z8 Z7 ((((w9.setCell ⟨W1.heap.size,16,none⟩ (.int .i64 ik)).setCell ⟨W1.heap.size,17,none⟩ (.string ix)).setCell ⟨W1.heap.size,18,none⟩ (.int .i64 ic)).setCell ⟨W1.heap.size,19,none⟩ (.slice A9 aj.length c9)) (fun k=>Y.heap.size<=k/\k<((((w9.setCell ⟨W1.heap.size,16,none⟩ (.int .i64 ik)).setCell ⟨W1.heap.size,17,none⟩ (.string ix)).setCell ⟨W1.heap.size,18,none⟩ (.int .i64 ic)).setCell ⟨W1.heap.size,19,none⟩ (.slice A9 aj.length c9)).heap.size) aj (.slice A9 aj.length c9)):=bz.keep (fun a ha=>aR a (by have:=ha.1;have:=eG.out.size;have:=aI.out;have:=eP.out.lt;omega)) (fun k hk=>⟨hk.1,by rw[aK];exact hk.2⟩);have bu:=hid ak;clear bz bJ aa ak aW aP aR aK m0 m1 m2 m3 aZ aY
 go_upto_region 11 with fail
 clear dQ dP dO dN fH fG fF fE;generalize ((((w9.setCell ⟨W1.heap.size,16,none⟩ (.int .i64 ik)).setCell ⟨W1.heap.size,17,none⟩ (.string ix)).setCell ⟨W1.heap.size,18,none⟩ (.int .i64 ic)).setCell ⟨W1.heap.size,19,none⟩ (.slice A9 aj.length c9))=W9 at *;obtain⟨_,_,ay,au⟩:=KB.out W9 dA.out;have fT:=hid au;clear aH;have aH:=hid ay;clear ay au
 go_wp2_with (first
  |(refine wpList_load_row rfl 69 (.tmp 9) rfl W1.heap.size rfl 69 _ (0,0) _ bu.out Tryz.underlying69 rfl (by kernel_rfl) ?_)
  |(refine wpList_store_row rfl 69 (.tmp 4) (.tmp 82) rfl (w.heap.size+1+1) _ rfl rfl 69 _ aH.out (by kernel_rfl) (by simp) (by simp[Value.oneCell']) ?_)
  |fail)
 refine bodyPost_ret (WQ Tryz.results42 _ _ _ (w.heap.size+1+1) 69 _ (0,0) _ rfl (aH.out.row _) rfl Tryz.underlying69 (by kernel_rfl) _ rfl) rfl ?_;have aJ:=bg.out;have ag:∀(cs:Array Value) (a:Addr),a.block≠w.heap.size+1+1->(W9.setRow (w.heap.size+1+1) cs).cell? a=W9.cell? a:=fun cs a ha=>World.cell?_of_block (setRow_other _ _ _ _ ha)
 have fD:=ai.out;have fA:=aI.out;have fq:=dY.out;have dM:=eZ.out;have dB:=dX.out;have hzy:=fP.out;have bH:=bn.out;have aO:=eG.out;have bR:=fT.out;refine Or.inr ⟨rfl,q,o,Ar,cr,A1,A5,c5,bi.out,
  dZ.out.keep (fun a ha=>(ag _ a (by have:=ha.1;omega)).trans ((bH.cell (QV ha.2 aO.size) (Nat.ne_of_lt ha.2)).trans (aO.cell ha.2 (Nat.ne_of_lt ha.2)))) (fun k hk=>⟨by have:=hk.1;omega,by rw[size_setRow];exact QV hk.2 (QP aO.size bH.size)⟩),
  (HQ.out W9 bR).keep (fun a ha=>ag _ a (by have:a.block<w.heap.size:=ha;omega)) (fun _ h=>h),
  by rw[ax.out];exact fV.out.keep (fun a ha=>(ag _ a (by have:=ha.1;omega)).trans (bH.cell (by have:=ha.2;omega) (by have:=ha.1;omega))) (fun k hk=>⟨by have:=hk.1;omega,by rw[size_setRow];have:=bH.size;have:=hk.2;omega⟩),
  YV bR (by omega) _,.inr ⟨q2,i,s,A2,A9,c9,df.out,(eu.out W9 bR).keep (fun a ha=>ag _ a (by have:a.block<w.heap.size:=ha;omega)) (fun _ h=>h),?_,?_⟩⟩
 ·rw[dn.out];exact cZ.out.keep (fun a ha=>ag _ a (by have:=ha.1;have:=aO.size;omega)) (fun k hk=>⟨by have:=hk.1;have:=aO.size;omega,by rw[size_setRow];exact hk.2⟩)
 rw[dn.out,ax.out];rfl
