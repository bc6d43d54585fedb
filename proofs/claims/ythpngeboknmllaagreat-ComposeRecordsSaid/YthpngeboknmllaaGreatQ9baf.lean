/- T -/
import Derived.Test.YthpngeboknmllaaGreatQ5d16
set_option linter.unusedVariables false
set_option linter.unusedSimpArgs false
set_option maxHeartbeats 8000000
set_option maxRecDepth 100000
namespace Go.Proofs.YthpngeboknmllaaGreat
open Go.RowKit
def RN (x:Z9) (w:World) (e:Ending) (w':World):Prop:=∃B b,e=.returned (.agg #[.int .i64 x.kind,.string x.text,.int .i64 x.cols,.slice B x.kids.length b])/\Z8 Z6 w' (Lt w'.heap.size) x.kids (.slice B x.kids.length b)/\Below w.heap.size w w'
theorem SY {w:World} {S:Nat->Prop} {items:List Z9} {v:Value} (h:Z8 Z6 w S items v):Zk (items.headD ZN):=by
 cases items with
 |nil=>exact⟨by simp[ZN,Z9.kind,Z4],by simp[ZN,Z9.cols,Z4],Qj _⟩
 |cons x l=>exact R7 h (k:=0) (by simp)
theorem zVg (items:List Z9) (An:Option Addr) (cn:Nat) (w:World) (hi:Z8 Z6 w (Lt w.heap.size) items (.slice An items.length cn)) :
  Calls Tryz.prog 23 #[.slice An items.length cn] w (RN (items.headD ZN) w):=by
 have HI:=hid hi;have HO:Hid (Z5 (w.alloc (.cells #[.int .i64 0,.string ⟨#[]⟩,.int .i64 0,.slice none 0 0] 24)) w.heap.size (.cells #[.int .i64 0,.string ⟨#[]⟩,.int .i64 0,.slice none 0 0] 24)):=hid (Z5.at0 _ _);cases items with
 |
  nil =>
  clear hi;simp only[List.length_nil];go_enter Tryz.func23,Tryz.ntmps23
  go_wp2_with (first
   |(refine wpList_store_row rfl 24 (.tmp 2) (.tmp 6) rfl w.heap.size _ rfl rfl 24 _ HO.out (by kernel_rfl) (by simp) (by simp[Value.oneCell']) ?_)
   |fail)
  refine bodyPost_ret (v:=.agg #[.int .i64 0,.string ⟨#[]⟩,.int .i64 0,.slice none 0 0]) (results_cell_row Tryz.results23 _ _ w.heap.size 24 _ (0,0) _ rfl (setRow_heap _ _ _ _ _ _ HO.out) Tryz.underlying24 rfl (by kernel_rfl)) rfl ?_;exact⟨none,0,rfl,Z8.nil_ 0 (Qj _) none,Y6 (ZW _ _) (Qi _) _⟩
 |
  cons x l =>
  obtain⟨_,_,rs,hq,ah,af,au,av⟩:=hi;cases hq;obtain⟨g,o,B,bx,ax,rfl,hg,x0,x1,x2,x3,_,_,_,ae,aj,ak,ag⟩:=YW (au.keep (fun _ _=>rfl) (fun _ h=>h)) av (k:=0) (by simp);simp only[Nat.zero_mul,Nat.add_zero,List.getElem_cons_zero] at x0 x1 x2 x3 ae ag;have HK:Hid (Z8 Z6 w (Lt w.heap.size) x.kids (.slice B x.kids.length bx)):=⟨_,_,ax,rfl,ae,aj,ak,ag⟩;have aa:g<w.heap.size:=hg;have y0:=((ZW w (.cells #[.int .i64 0,.string ⟨#[]⟩,.int .i64 0,.slice none 0 0] 24)).cell (p:=⟨g,_,none⟩) aa).trans x0;have y1:=((ZW w (.cells #[.int .i64 0,.string ⟨#[]⟩,.int .i64 0,.slice none 0 0] 24)).cell (p:=⟨g,_,none⟩) aa).trans x1;have y2:=((ZW w (.cells #[.int .i64 0,.string ⟨#[]⟩,.int .i64 0,.slice none 0 0] 24)).cell (p:=⟨g,_,none⟩) aa).trans x2;have y3:=((ZW w (.cells #[.int .i64 0,.string ⟨#[]⟩,.int .i64 0,.slice none 0 0] 24)).cell (p:=⟨g,_,none⟩) aa).trans x3;clear x0 x1 x2 x3;have i0:(((x::l).length:Int)==0)=false:=by rw[beq_eq_false_iff_ne];simp only[List.length_cons];omega
  have i1:(0:Int)<((x::l).length:Int):=by simp
  generalize (x::l).length=n at *;clear au av ak ag ae aj ah af;go_enter Tryz.func23,Tryz.ntmps23
  go_wp2_with (first
   |(refine wpList_store_row rfl 24 (.tmp 2) (.tmp 9) rfl w.heap.size _ rfl rfl 24 _ HO.out (by kernel_rfl) (by simp) (by simp[Value.oneCell']) ?_)
   |fail)
  refine bodyPost_ret (v:=.agg #[.int .i64 x.kind,.string x.text,.int .i64 x.cols,.slice B x.kids.length bx]) (results_cell_row Tryz.results23 _ _ w.heap.size 24 _ (0,0) _ rfl (setRow_heap _ _ _ _ _ _ HO.out) Tryz.underlying24 rfl (by kernel_rfl)) rfl ?_;exact⟨B,bx,rfl,HK.out.below (Y6 (ZW _ _) (Qi _) _) (Y6 (ZW _ _) (Qi _) _).size,Y6 (ZW _ _) (Qi _) _⟩
theorem Vn (t:Z9) (p m:List Int) (s:Int) (items:List Z9) (x:ByteArray) (f:Bool) (A Ap Am An:Option Addr) (cap cp cm cn:Nat) (w:World) (aa:Ze×Int) (hi:Z8 Z6 w (Lt w.heap.size) items (.slice An items.length cn))
  (hC:∀W B b,Below w.heap.size w W->Z8 Z6 W (Lt W.heap.size) (items.headD ZN).kids (.slice B (items.headD ZN).kids.length b)->Calls Tryz.prog 22 #[.agg #[.int .i64 t.kind,.string t.text,.int .i64 t.cols,.slice A t.kids.length cap],.agg #[.slice Ap p.length cp,.slice Am m.length cm],.agg #[.int .i64 (items.headD ZN).kind,.string (items.headD ZN).text,.int .i64 (items.headD ZN).cols,.slice B (items.headD ZN).kids.length b],.int .i64 s] W (Zh W aa)) :
  Calls Tryz.prog 8 #[.agg #[.int .i64 t.kind,.string t.text,.int .i64 t.cols,.slice A t.kids.length cap],.agg #[.slice Ap p.length cp,.slice Am m.length cm],.agg #[.int .i64 2,.slice An items.length cn,.int .i64 s,.string x,.bool f]] w (Zh w aa):=by
 obtain⟨W0,ae⟩:∃W0,(((w.alloc (.cells #[.int .i64 t.kind,.string t.text,.int .i64 t.cols,.slice A t.kids.length cap] 24)).alloc (.cells #[.slice Ap p.length cp,.slice Am m.length cm] 27)).alloc (.cells #[.int .i64 2,.slice An items.length cn,.int .i64 s,.string x,.bool f] 30)).alloc (.cells #[.slice none 0 0,.slice none 0 0,.slice none 0 0,.slice none 0 0,.slice none 0 0] 35)=W0:=⟨_,rfl⟩;have af:Below w.heap.size w W0:=by rw[<-ae];exact Zy (Zy (Zy (ZW _ _) _) _) _
 have aB:Z5 W0 w.heap.size (.cells #[.int .i64 t.kind,.string t.text,.int .i64 t.cols,.slice A t.kids.length cap] 24):=by rw[<-ae];exact(((Z5.at0 _ _).al _).al _).al _
 have aA:Z5 W0 (w.heap.size+1) (.cells #[.slice Ap p.length cp,.slice Am m.length cm] 27):=by rw[<-ae];exact((Z5.at1 _ _ _).al _).al _
 have ax:Z5 W0 (w.heap.size+1+1) (.cells #[.int .i64 2,.slice An items.length cn,.int .i64 s,.string x,.bool f] 30):=by rw[<-ae];exact(Z5.at2 _ _ _ _).al _
 have HG:Hid (Z5 W0 (w.heap.size+1+1+1) (.cells #[.slice none 0 0,.slice none 0 0,.slice none 0 0,.slice none 0 0,.slice none 0 0] 35)):=by show Z5 _ _ _;rw[<-ae];exact Z5.new _ _ _ (by simp)
 have aQ:=hid aB;have aP:=hid aA;have aK:=hid ax;have aS:Hid (w.heap.size≠w.heap.size+1+1+1):=by show _≠_;omega
 have aR:Hid (w.heap.size+1≠w.heap.size+1+1+1):=by show _≠_;omega
 have aL:Hid (w.heap.size+1+1≠w.heap.size+1+1+1):=by show _≠_;omega
 have aJ:=hid af;have CF:Hid (∀W,Below W0.heap.size W0 W->Calls Tryz.prog 23 #[.slice An items.length cn] W (RN (items.headD ZN) W)):=fun W hW=>by
  have h:=af.trans (hW.mono af.size);exact zVg items An cn W (hi.below h h.size)
 have CW:=hid (fun W B b (hW:Below W0.heap.size W0 W) h=>hC W B b (af.trans (hW.mono af.size)) h);generalize items.headD ZN=it at CF CW;have c0:W0.cell? ⟨w.heap.size+1+1,0,none⟩=some (.int .i64 2):=ax.cell 0;have HW:Hid (Below W0.heap.size W0 W0):=hid (Qg _ _);clear hC hi af aB aA ax;go_enter Tryz.func8,Tryz.ntmps8
 go_upto_region 1 with fail
 try rw[ae]
 clear ae
 go_upto_region 7 with fail
 clear c0;refine wp_region_noPanic ?_;refine wp_region_held_drew (S:=fun w'=>ZY (fun k=>k=w.heap.size+1+1+1) W0 w') (by kernel_rfl) (kwt HW.out) (fun hHeld=>?_);refine wpAnyH_take (i:=0) (oi:=⟨some 30,_,_,_,_,_⟩) (v:=_) rfl (by kernel_rfl) (by kernel_rfl) (by kernel_rfl) (fun _ _ _ h=>h) (Xh 24 (.tmp 3) rfl (by rfl) _ rfl (fun w hS=>hS.obj aQ.out aS.out) Tryz.underlying24 (by kernel_rfl)) hHeld ?_
 try simp only[qP,qN,qS,qZ,qC]
 refine wpAnyH_take (i:=1) (oi:=⟨some 31,_,_,_,_,_⟩) (v:=_) rfl (by kernel_rfl) (by kernel_rfl) (by kernel_rfl) (fun _ _ _ h=>h) (Xh 27 (.tmp 4) rfl (by rfl) _ rfl (fun w hS=>hS.obj aP.out aR.out) Tryz.underlying27 (by kernel_rfl)) hHeld ?_
 try simp only[qP,qN,qS,qZ,qC]
 refine wpAnyH_take (i:=2) (oi:=⟨some 32,_,_,_,_,_⟩) (v:=_) rfl (by kernel_rfl) (by kernel_rfl) (by kernel_rfl) (fun _ _ _ h=>h) (Or.inl ⟨by rfl,fun W hS=>by clear hS;go_simp;try with_reducible rfl⟩) hHeld ?_
 try simp only[qP,qN,qS,qZ,qC]
 refine wpAnyH_take (i:=3) (oi:=⟨some 33,_,_,_,_,_⟩) (v:=_) rfl (by kernel_rfl) (by kernel_rfl) (by kernel_rfl) (fun _ _ _ h=>h) (Or.inl ⟨by rfl,fun W hS=>by have h:W.cell? ⟨(w.heap.size+1+1),1,none⟩=some (.slice An items.length cn):=(hS.obj aK.out aL.out).cell 1;clear hS;go_simp;try with_reducible rfl⟩) hHeld ?_
 try simp only[qP,qN,qS,qZ,qC]
 refine wpAnyH_take (i:=5) (oi:=⟨some 35,_,_,_,_,_⟩) (v:=_) rfl (by kernel_rfl) (by kernel_rfl) (by kernel_rfl) (fun _ _ _ h=>h) (Or.inl ⟨by rfl,fun W hS=>by clear hS;go_simp;try with_reducible rfl⟩) hHeld ?_
 try simp only[qP,qN,qS,qZ,qC]
 refine wpAnyH_take (i:=6) (oi:=⟨some 36,_,_,_,_,_⟩) (v:=_) rfl (by kernel_rfl) (by kernel_rfl) (by kernel_rfl) (fun _ _ _ h=>h) (Or.inl ⟨by rfl,fun W hS=>by have h:W.cell? ⟨(w.heap.size+1+1),2,none⟩=some (.int .i64 s):=(hS.obj aK.out aL.out).cell 2;clear hS;go_simp;try with_reducible rfl⟩) hHeld ?_
 try simp only[qP,qN,qS,qZ,qC]
 refine wpAnyH_ready (rs:=[4]) (by kernel_rfl) (by simp) ?_;refine(AllReadyH.cons (o:=⟨some 34,_,_,_,_,_⟩) rfl (fun K hK=>?_) AllReadyH.nil);go_simp;refine Calls.mono (CF.out _ (bwt HW.out)) ?_;rintro e wk ⟨B1,b1,rfl,aC,aF⟩;have HK:=hid aC;have HW:=hid ((bwt HW.out).trans (aF.mono (bwt HW.out).size));clear aC aF;refine hK.out _ _ (kwt HW.out) (fun hHeld=>?_);clear hK K
 try simp only[qP,qN,qS,qZ,qC]
 refine wpAnyH_ready (rs:=[7]) (by kernel_rfl) (by simp) ?_;refine(AllReadyH.cons (o:=⟨some 37,_,_,_,_,_⟩) rfl (fun K hK=>?_) AllReadyH.nil);go_simp;refine Calls.mono (CW.out _ _ _ (bwt HW.out) (HK.out.below bw bw.size)) ?_;intro e wk ag;have ay:=hid ag;obtain⟨aN,aH,aM,aG,aO,aI,ak,ah,au,aj,rfl,_,_,_,_,_,aD⟩:=ag;have HW:=hid ((bwt HW.out).trans (aD.mono (bwt HW.out).size));have az:=hid (HG.out.below HW.out);clear aD;refine hK.out _ _ (kwt HW.out) (fun hHeld=>?_);clear hK K
 try simp only[qP,qN,qS,qZ,qC]
 refine wpAnyH_take (i:=8) (oi:=⟨some 38,_,_,_,_,_⟩) (v:=_) rfl (by kernel_rfl) (by kernel_rfl) (by kernel_rfl) (fun _ _ _ h=>h) (Or.inl ⟨by rfl,fun W hS=>by clear hS;go_simp;try with_reducible rfl⟩) hHeld ?_
 try simp only[qP,qN,qS,qZ,qC]
 refine wpAnyH_take (i:=9) (oi:=⟨some 39,_,_,_,_,_⟩) (v:=_) rfl (by kernel_rfl) (by kernel_rfl) (by kernel_rfl) (fun _ _ _ h=>h) (Or.inl ⟨by rfl,fun W hS=>by clear hS;go_simp;try with_reducible rfl⟩) hHeld ?_
 try simp only[qP,qN,qS,qZ,qC]
 refine wpAnyH_ready (rs:=[10]) (by kernel_rfl) (by simp) ?_;refine(AllReadyH.cons (o:=⟨none,_,_,_,_,_⟩) rfl (fun K hK=>?_) AllReadyH.nil);rw[if_pos (by rfl)];refine wp_store_row 35 (.tmp 6) (.tmp 38) rfl (w.heap.size+1+1+1) #[.slice aN aa.1.ops.length aH,.slice aM aa.1.bp.length aG,.slice aO aa.1.bm.length aI,.slice ak aa.1.ap.length ah,.slice au aa.1.am.length aj] rfl rfl 35 _ az.out (by kernel_rfl) (by simp) (by simp[Value.oneCell']) ?_;refine Rx az.out (fun X9 av=>?_);refine hK.out _ _ ((kwt HW.out).trans' av.out.1) (fun hHeld=>?_);clear hK K
 try simp only[qP,qN,qS,qZ,qC]
 refine wpAnyH_take (i:=11) (oi:=⟨some 7,_,_,_,_,_⟩) (v:=_) rfl (by kernel_rfl) (by kernel_rfl) (by kernel_rfl) (fun _ _ _ h=>h) (Or.inl ⟨by rfl,fun W hS=>by clear hS;go_simp;try with_reducible rfl⟩) hHeld ?_
 try simp only[qP,qN,qS,qZ,qC]
 refine wpAnyH_done (by kernel_rfl) ?_ _;refine NoPanic.normal ?_
 go_wp2_with fail
 refine bodyPost_ret (v:=.tuple #[.agg #[.slice aN aa.1.ops.length aH,.slice aM aa.1.bp.length aG,.slice aO aa.1.bm.length aI,.slice ak aa.1.ap.length ah,.slice au aa.1.am.length aj],.int .i64 aa.2]) (Y1 Tryz.results8 _ _ _ (w.heap.size+1+1+1) 35 _ (0,0) _ rfl av.out.2.1 rfl Tryz.underlying35 (by kernel_rfl) _ rfl) rfl ?_;exact Zh.put (arr:=#[]) ay.out az.out av.out.1 av.out.2.2 (aJ.out.trans (HW.out.mono aJ.out.size)) (by omega)
theorem zUq (op:ZL) (Ar An:Option Addr) (lr ln cr cn:Nat) (w:World) :
  Calls Tryz.prog 32 #[.agg (Zm op (.slice Ar lr cr) (.slice An ln cn))] w fun e w'=>e=.returned (.agg (Zm (Zu op) (.slice Ar lr cr) (.slice An ln cn)))/\Below w.heap.size w w':=by
 obtain⟨kind,row,at_,n,nodes,slot,old,text⟩:=op;by_cases h1:kind=1
 ·subst h1;simp only[Zm,Zu,reduceIte,Int.reduceEq];go_enter Tryz.func32,Tryz.ntmps32
  go_wp2_with fail
  refine bodyPost_ret (v:=.agg #[.int .i64 2,.slice Ar lr cr,.int .i64 at_,.int .i64 n,.slice An ln cn,.int .i64 slot,.string old,.string text]) (by simp[results,Tryz.results32,go_sem]) rfl ⟨rfl,?_⟩
  repeat (first|(refine Below.setCell ?_ (by simp) _))
  exact Zy (ZW _ _) _
 by_cases h2:kind=2
 ·subst h2;simp only[Zm,Zu,reduceIte,Int.reduceEq];go_enter Tryz.func32,Tryz.ntmps32
  go_wp2_with fail
  refine bodyPost_ret (v:=.agg #[.int .i64 1,.slice Ar lr cr,.int .i64 at_,.int .i64 n,.slice An ln cn,.int .i64 slot,.string old,.string text]) (by simp[results,Tryz.results32,go_sem]) rfl ⟨rfl,?_⟩
  repeat (first|(refine Below.setCell ?_ (by simp) _))
  exact Zy (ZW _ _) _
 by_cases h3:kind=3
 ·subst h3;simp only[Zm,Zu,reduceIte,Int.reduceEq];go_enter Tryz.func32,Tryz.ntmps32
  go_wp2_with fail
  refine bodyPost_ret (v:=.agg #[.int .i64 4,.slice Ar lr cr,.int .i64 at_,.int .i64 n,.slice An ln cn,.int .i64 slot,.string old,.string text]) (by simp[results,Tryz.results32,go_sem]) rfl ⟨rfl,?_⟩
  repeat (first|(refine Below.setCell ?_ (by simp) _))
  exact Zy (ZW _ _) _
 by_cases h4:kind=4
 ·subst h4;simp only[Zm,Zu,reduceIte,Int.reduceEq];go_enter Tryz.func32,Tryz.ntmps32
  go_wp2_with fail
  refine bodyPost_ret (v:=.agg #[.int .i64 3,.slice Ar lr cr,.int .i64 at_,.int .i64 n,.slice An ln cn,.int .i64 slot,.string old,.string text]) (by simp[results,Tryz.results32,go_sem]) rfl ⟨rfl,?_⟩
  repeat (first|(refine Below.setCell ?_ (by simp) _))
  exact Zy (ZW _ _) _
 by_cases h5:kind=5
 ·subst h5;simp only[Zm,Zu,reduceIte,Int.reduceEq];go_enter Tryz.func32,Tryz.ntmps32
  go_wp2_with fail
  refine bodyPost_ret (v:=.agg #[.int .i64 5,.slice Ar lr cr,.int .i64 at_,.int .i64 n,.slice An ln cn,.int .i64 slot,.string text,.string old]) (by simp[results,Tryz.results32,go_sem]) rfl ⟨rfl,?_⟩
  repeat (first|(refine Below.setCell ?_ (by simp) _))
  exact Zy (ZW _ _) _
 have i1:(kind==1)=false:=by simpa using h1
 have i2:(kind==2)=false:=by simpa using h2
 have i3:(kind==3)=false:=by simpa using h3
 have i4:(kind==4)=false:=by simpa using h4
 have i5:(kind==5)=false:=by simpa using h5
 simp only[Zm,Zu,h1,h2,h3,h4,h5,reduceIte];go_enter Tryz.func32,Tryz.ntmps32
 go_wp2_with fail
 refine bodyPost_ret (v:=.agg #[.int .i64 kind,.slice Ar lr cr,.int .i64 at_,.int .i64 n,.slice An ln cn,.int .i64 slot,.string old,.string text]) (by simp[results,Tryz.results32,go_sem]) rfl ⟨rfl,?_⟩
 repeat (first|(refine Below.setCell ?_ (by simp) _))
 exact Zy (ZW _ _) _
theorem UU:Ue 49 (.agg #[.int .i64 0,.slice none 0 0,.int .i64 0,.int .i64 0,.slice none 0 0,.int .i64 0,.string ⟨#[]⟩,.string ⟨#[]⟩]) Za.size 112:=U7
theorem zS2 (ops:List ZL):(WY ops).length=ops.length:=by simp[WY]
theorem zS5 (ops:List ZL) (Ao:Option Addr) (co:Nat) (w:World) (S:Nat->Prop) (hS:∀k,S k->k<w.heap.size) (ho:Z8 Za w S ops (.slice Ao ops.length co)) (hl:ops.length<=1000) :
  Calls Tryz.prog 13 #[.slice Ao ops.length co] w fun e w'=>∃A c,e=.returned (.slice A ops.length c)/\Z8 Za w' (fun k=>S k\/w.heap.size<=k/\k<w'.heap.size) (WY ops) (.slice A ops.length c)/\Below w.heap.size w w':=by
 obtain⟨_,_,rs,hq,ah,ag,aj,au⟩:=ho;cases hq;have HS:=hid hS;have HL:=hid hl;have H:Hid (Zd w S Ao rs/\ZG Za w S ops rs):=⟨aj,au⟩;have v1:IntKind.i64.wrap ((ops.length:Int)-1)=(ops.length:Int)-1:=IntWalk.i64_in _ (by omega);clear aj au ah ag hS hl;go_enter Tryz.func13,Tryz.ntmps13
 go_wp2_with fail
 go_loopw [3,4] (fun v i wr=>Below w.heap.size w wr/\∃k:Nat,k<=ops.length/\i=.int .i64 ((k:Int)-1)/\V8 Za 49 wr w.heap.size S ((ops.drop k).map Zu).reverse v) (fun _ i _=>(intOf i+1).toNat)
 case atStart=>exact⟨Qg _ _,ops.length,Qi _,rfl,[],by rw[List.drop_length];exact World.ownsRow_nil _ _ _ _,by rw[List.drop_length];rfl⟩
 obtain⟨hb,k,hk,rfl,aa⟩:=hrel;have HB:=hid hb;have HO:=hid aa;clear hb aa v1;cases k with
 |
  zero =>
  have e0:((0:Nat):Int)-1=-1:=rfl;rw[e0];obtain⟨A',c',aB⟩:∃A c,u3=.slice A ops.length c:=by
   obtain⟨cs,⟨_,h1⟩,_⟩:=HO.out;simp only[List.drop_zero,List.length_reverse,List.length_map] at h1;rcases h1 with ⟨rfl,h0⟩|⟨g,cap,cur,rfl,_⟩
   ·exact⟨none,0,by rw[h0]⟩
   exact⟨_,_,rfl⟩
  subst aB
  go_wp2_with fail
  go_ret;refine⟨A',c',rfl,?_,HB.out⟩;exact HO.out.rows _ (fun k hk=>.inl hk) (fun k h1 h2=>.inr ⟨h1,h2⟩)
 |
  succ k =>
  have e0:((k+1:Nat):Int)-1=(k:Int):=by omega
  rw[e0];have ak:k<ops.length:=by omega
  obtain⟨g,o,c,eA,hg,hR,hc⟩:=RB H.out.1 H.out.2 ak;have HX:Hid (Za.R w S ops[k] c):=hR;obtain⟨vr,vn,rfl,h1,h2,h3,h4,h5,h6,h7,h8⟩:=hR;obtain⟨Ar,cr,rfl⟩:=h7.form;obtain⟨An,cn,rfl⟩:=h8.form;have hE:Za.size=8:=rfl;rw[hE] at hc;have av:g<w.heap.size:=HS.out _ hg;have kc:∀j u,w.cell? ⟨g,j,none⟩=some u->wr.cell? ⟨g,j,none⟩=some u:=fun j u h=>(HB.out.cell (p:=⟨g,j,none⟩) av).trans h
  have x0:=kc _ _ (hc 0 _ rfl);have x1:=kc _ _ (hc 1 _ rfl);have x2:=kc _ _ (hc 2 _ rfl);have x3:=kc _ _ (hc 3 _ rfl);have x4:=kc _ _ (hc 4 _ rfl);have x5:=kc _ _ (hc 5 _ rfl);have x6:=kc _ _ (hc 6 _ rfl);have x7:=kc _ _ (hc 7 _ rfl);simp only[Nat.add_zero] at x0;have HY:Hid (∀W,Below w.heap.size w W->ZG Za W S [Zu ops[k]] [.int .i64 (Zu ops[k]).kind,.slice Ar ops[k].row.length cr,.int .i64 (Zu ops[k]).at_,.int .i64 (Zu ops[k]).n,.slice An ops[k].nodes.length cn,.int .i64 (Zu ops[k]).slot,.string (Zu ops[k]).old,.string (Zu ops[k]).text]):=fun W hW=>by
   refine ZG.single (E:=Za) ⟨_,_,rfl,?_,h2,h3,h4,?_,?_,h7.keep (fun p hp=>hW.cell (HS.out _ hp)) (fun _ h=>h),h8.keep (fun p hp=>hW.cell (HS.out _ hp)) (fun _ h=>h)⟩
   ·show Z4 (if ops[k].kind=1 then 2 else if ops[k].kind=2 then 1 else if ops[k].kind=3 then 4 else if ops[k].kind=4 then 3 else ops[k].kind);split
    ·simp[Z4]
    split
    ·simp[Z4]
    split
    ·simp[Z4]
    split
    ·simp[Z4]
    exact h1
   ·show (if ops[k].kind=5 then ops[k].text else ops[k].old).size<=maxLen;split
    ·exact h6
    exact h5
   show (if ops[k].kind=5 then ops[k].old else ops[k].text).size<=maxLen;split
   ·exact h5
   exact h6
  have CI:Hid (∀W,Calls Tryz.prog 32 #[.agg #[.int .i64 ops[k].kind,.slice Ar ops[k].row.length cr,.int .i64 ops[k].at_,.int .i64 ops[k].n,.slice An ops[k].nodes.length cn,.int .i64 ops[k].slot,.string ops[k].old,.string ops[k].text]] W fun e w'=>e=.returned (.agg #[.int .i64 (Zu ops[k]).kind,.slice Ar ops[k].row.length cr,.int .i64 (Zu ops[k]).at_,.int .i64 (Zu ops[k]).n,.slice An ops[k].nodes.length cn,.int .i64 (Zu ops[k]).slot,.string (Zu ops[k]).old,.string (Zu ops[k]).text])/\Below W.heap.size W w'):=fun W=>zUq ops[k] Ar An ops[k].row.length ops[k].nodes.length cr cn W
  have HN:Hid (((ops.drop (k+1)).map Zu).reverse++[Zu ops[k]]=((ops.drop k).map Zu).reverse):=by
   show _=_;rw[List.drop_eq_getElem_cons ak,List.map_cons,List.reverse_cons]
  have aF:Hid (((ops.drop (k+1)).map Zu).reverse.length<=1000):=by have:=HL.out;show _<=_;simp;omega
  have i0:(0:Int)<=(k:Int):=by omega
  have i1:(k:Int)<(ops.length:Int):=by omega
  have v1:IntKind.i64.wrap ((k:Int)-1)=(k:Int)-1:=by have:=HL.out;exact IntWalk.i64_in _ (by omega)
  have i2:decide ((0:Int)<=(k:Int))=true:=by simp
  subst eA;clear h1 h2 h3 h4 h5 h6 h7 h8 hc kc hg av HX;generalize ((ops.drop (k+1)).map Zu).reverse=L at *;generalize Zu ops[k]=y at *;generalize ops[k]=x at *;obtain⟨yk,yr,ya,yn,yno,ys,yo,yt⟩:=y;obtain⟨xk,xr,xa,xn,aA,xs,xo,xt⟩:=x;simp only at x0 x1 x2 x3 x4 x5 x6 x7 HY CI;generalize xr.length=nr at *;generalize aA.length=nn at *
  go_wp2_with (first
   |(go_at_call 32;refine Calls.mono (CI.out _) ?_;rintro e w2 ⟨rfl,af⟩;have ae:=hid (HB.out.trans (af.mono HB.out.size));have aD:Hid (V8 Za 49 (w2.alloc (.cells #[.int .i64 yk,.slice Ar nr cr,.int .i64 ya,.int .i64 yn,.slice An nn cn,.int .i64 ys,.string yo,.string yt] 49)) w.heap.size S L u3):=hid (by obtain⟨cs,p1,p2⟩:=HO.out;have ax:=af.trans ((ZW w2 (.cells #[.int .i64 yk,.slice Ar nr cr,.int .i64 ya,.int .i64 yn,.slice An nn cn,.int .i64 ys,.string yo,.string yt] 49)).mono af.size);exact⟨cs,QF _ p1 ax,p2.keep (fun p hp=>ax.cell (Qk (HS.out _ hp) HB.out.size)) (fun _ h=>h)⟩);clear af)
   |(at_builtin;refine app_O (TS:=33) Tryz.underlying33 UU rfl (by decide) HS.out (by rfl) (.tmp 12) (.tmp 18) (by rfl) (by rfl) aD.out _ 1 1 (by rfl) (fun k=>k=w2.heap.size) _ (fun _=>⟨w2.heap.size,0,rfl,rfl,fun j u hu=>by rw[Nat.zero_add];exact((Z5.at0 _ _).cell j).trans (by simpa using hu)⟩) (HY.out _ (ae.out.trans ((ZW w2 _).mono ae.out.size))) (by rfl) (by have:=aF.out;simp;omega) (Qf ae.out.size (ZW w2 _).size) ?_;intro v8 w8 az ay;have aC:=hid az;have aG:=hid (ae.out.trans (((ZW w2 _).mono ae.out.size).trans ay));clear az ay)
   |fail)
  go_roundw
  case rel=>exact⟨aG.out,k,by omega,rfl,by rw[<-HN.out];exact aC.out⟩
  case measure=>simp[intOf]
def NG (g:Nat) (W:World) (k:Nat):Prop:=k≠g/\k<W.heap.size
theorem R5 {V W W':World} {g q:Nat} (h1:V.heap.size<=g) (h2:g<W.heap.size) (h3:W.heap.size<=W'.heap.size) (h4:V.heap.size<=W.heap.size) (hq:Lt V.heap.size q\/W.heap.size<=q/\q<W'.heap.size):NG g W' q:=by
 unfold NG;rcases hq with h|h
 ·have h5:q<V.heap.size:=h;omega
 omega
theorem QE {α:Type} {E:YA α} {W X:World} {g:Nat} {xs:List α} {v:Value} (hg:W.heap.size=g) (hb:Below W.heap.size W X) (h:Z8 E W (Lt W.heap.size) xs v):Z8 E X (NG g X) xs v :=
 h.keep (fun p hp=>hb.cell hp) (fun k hk=>by
  have h5:k<W.heap.size:=hk;have:=hb.size;unfold NG;omega)
