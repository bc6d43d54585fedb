/- T -/
import Derived.Test.YthpngeboknmllaaGreatQ15e7
set_option linter.unusedVariables false
set_option linter.unusedSimpArgs false
set_option maxHeartbeats 4000000
set_option maxRecDepth 100000
namespace Go.Proofs.YthpngeboknmllaaGreat
open Go.RowKit
theorem zU3 (S:Nat->Prop) (it:Z9) (ae:List Z9) (aa:List Int) (ai:Int) (s:Nat) (Ao Ai:Option Addr) (co ci:Nat) (x0 x1 x2 x3 x4 x5 x6 x7 x8 x9 aK aJ aI:Value) (w:World) (hv:Z8 Z7 w (Lt w.heap.size) it.kids (.slice Ai it.kids.length ci)) (aQ:Zt it) (bN:ZW it<=900000) (bn:Z0 w (fun k=>k<w.heap.size/\S k) aa (.slice Ao aa.length co)) (hs:s<it.kids.length) (av:it.kids[s]=Z6 ae) :
  Calls Tryz.prog 56 #[.agg #[x0,x1,x2,x3,x4,x5,x6,x7,x8,x9,aK,aJ,aI,.slice Ao aa.length co,.int .i64 ai,.int .i64 (s:Int),.int .i64 it.kind,.string it.text,.int .i64 it.cols,.slice Ai it.kids.length ci]] w (Q3 S w ⟨4,aa,ai,ae.length,[Zp it s []],(s:Int),ZQ,ZQ⟩):=by
 obtain⟨W0,aG⟩:∃W0,(w.alloc (.cells #[x0,x1,x2,x3,x4,x5,x6,x7,x8,x9,aK,aJ,aI,.slice Ao aa.length co,.int .i64 ai,.int .i64 (s:Int),.int .i64 it.kind,.string it.text,.int .i64 it.cols,.slice Ai it.kids.length ci] 69)).alloc (.cells #[.int .i64 0,.slice none 0 0,.int .i64 0,.int .i64 0,.slice none 0 0,.int .i64 0,.string ⟨#[]⟩,.string ⟨#[]⟩] 49)=W0:=⟨_,rfl⟩;have aZ:W0.heap.size=w.heap.size+1+1:=by rw[<-aG];simp
 have ak:Below w.heap.size w W0:=by rw[<-aG];exact((QQ _ _).alloc (QT _) _).alloc (by simp) _
 have KB:Hid (∀W,Below W0.heap.size W0 W->W.cell? ⟨w.heap.size,13,none⟩=some (.slice Ao aa.length co)/\W.cell? ⟨w.heap.size,14,none⟩=some (.int .i64 ai)/\W.cell? ⟨w.heap.size,15,none⟩=some (.int .i64 (s:Int))/\W.cell? ⟨w.heap.size,16,none⟩=some (.int .i64 it.kind)/\W.cell? ⟨w.heap.size,17,none⟩=some (.string it.text)/\W.cell? ⟨w.heap.size,18,none⟩=some (.int .i64 it.cols)/\W.cell? ⟨w.heap.size,19,none⟩=some (.slice Ai it.kids.length ci)/\Z5 W (w.heap.size+1) (.cells #[.int .i64 0,.slice none 0 0,.int .i64 0,.int .i64 0,.slice none 0 0,.int .i64 0,.string ⟨#[]⟩,.string ⟨#[]⟩] 49)/\Below w.heap.size w W):=fun W hW=>by
  have ag:Z5 W w.heap.size (.cells #[x0,x1,x2,x3,x4,x5,x6,x7,x8,x9,aK,aJ,aI,.slice Ao aa.length co,.int .i64 ai,.int .i64 (s:Int),.int .i64 it.kind,.string it.text,.int .i64 it.cols,.slice Ai it.kids.length ci] 69):=Z5.belowB (by rw[<-aG];exact(Z5.at0 _ _).al _) hW (by omega);have aD:Z5 W (w.heap.size+1) (.cells #[.int .i64 0,.slice none 0 0,.int .i64 0,.int .i64 0,.slice none 0 0,.int .i64 0,.string ⟨#[]⟩,.string ⟨#[]⟩] 49):=Z5.belowB (by rw[<-aG];exact Z5.at1 _ _ _) hW (by omega);exact⟨ag.cell 13,ag.cell 14,ag.cell 15,ag.cell 16,ag.cell 17,ag.cell 18,ag.cell 19,aD,ak.trans (hW.mono ak.size)⟩
 have CD:=hid (zDt it Ai ci W0 (hv.below ak ak.size) aQ (by omega));obtain⟨aC,aB,ah,aO,aN,aM,aL,_,_⟩:=KB.out W0 (QQ _ _);have bL:=hid ak;have bH:=hid aZ;have bU:=hid aQ;have aA:=hid av;have HS:=hid hs;have bR:=hid bn;have i3:(0:Int)<=(s:Int):=by omega
 have i4:(s:Int)<(it.kids.length:Int):=by omega
 clear hv aQ bN bn av ak aZ;go_enter Tryz.func56,Tryz.ntmps56
 go_wp2_with fail
 refine CD.out.mono ?_;rintro e w1 ⟨v,T,rfl,aU,hT,aP,ay,af,_⟩;obtain⟨bb,x,c,rfl,az⟩:=zGo aP (by omega);obtain⟨W1,aF⟩:∃W1,w1.alloc (Obj.cells #[.int .i64 it.kind,.string it.text,.int .i64 it.cols,.slice (some ⟨bb,x,none⟩) it.kids.length c] 24)=W1:=⟨_,rfl⟩;have aj:Below w1.heap.size w1 W1:=by rw[<-aF];exact ZX _ _
 have aT:Below W0.heap.size W0 W1:=aU.trans (aj.mono aU.size);have bD:¬T w1.heap.size:=fun h=>by have:=(hT _ h).2;omega
 have au:FB W1 w1.heap.size (.int .i64 it.kind) (.string it.text) (.int .i64 it.cols) (.slice (some ⟨bb,x,none⟩) it.kids.length c):=by rw[<-aF];exact FB.new _ _ _ _ _ _ rfl
 have aW:YA W1 T w1.heap.size 0 it:=⟨_,⟨au.1.1,au.1.2.1,au.1.2.2.1,au.1.2.2.2⟩,bU.out,aP.keep (fun q hq=>aj.cell (hT _ hq).2) (fun _ h=>h)⟩;have aH:=au.1.2.2.2;have bC:Xh W1 T:=ay.keep (fun q hq=>aj.cell (hT _ hq).2);have aV:∀k,T k->k<W1.heap.size:=fun k hk=>QV (hT k hk).2 aj.size
 have bz:=Sa aW (by simpa using aH) HS.out;rw[aA.out] at bz;obtain⟨vi,⟨_,_,_,k5⟩,_,bg⟩:=bz;obtain⟨Ai2,ci2,rfl⟩:∃A c,vi=.slice A ae.length c:=bg.form;have f5:W1.frozen? ⟨bb,x+s*4+3,none⟩=false:=(aj.frozen (p:=⟨bb,_,none⟩) (hT _ az).2).trans (af bb az _);have bB:W0.heap.size<=bb/\bb<w1.heap.size:=hT bb az;have n1:¬w.heap.size=bb:=by have:=bL.out.size;have:=bH.out;omega
 have n2':¬bb=w.heap.size:=fun e=>n1 e.symm
 have n3:¬w1.heap.size=bb:=by omega
 have n4:¬bb=w1.heap.size:=by omega
 have bi:=zIq (T':=fun q=>W0.heap.size<=q/\q<W1.heap.size) (W':=W1.setCell ⟨bb,x+s*4+3,none⟩ (.slice none 0 0)) (L:=[]) (S2:=fun _=>False) bC aV bD aW HS.out aH az aA.out (Z8.nil_ 0 (QU _) none) (fun q hq=>hq.elim) (fun k hk=>⟨(hT k hk).1,aV k hk⟩) (fun k hk=>hk.elim) rfl;have e9:(W1.setCell ⟨bb,x+s*4+3,none⟩ (.slice none 0 0)).cell? ⟨w1.heap.size,3,none⟩=some (.slice (some ⟨bb,x,none⟩) it.kids.length c):=(World.cell?_setCell_other _ _ _ _ (by intro e;injection e with e;omega)).trans aH;have bA:=aT.setCell (p:=⟨bb,x+s*4+3,none⟩) bB.1 (.slice none 0 0);have aY:(W1.setCell ⟨bb,x+s*4+3,none⟩ (.slice none 0 0)).heap.size=W1.heap.size:=by simp[World.setCell]
 have bI:=hid bi;have bK:=hid bA;have bG:=hid aY;clear aC aB ah aO aN aM aL;obtain⟨aC,aB,ah,aO,aN,aM,aL,_,_⟩:=KB.out W1 aT;clear aP ay af aW aU aj aT hT az bD au bC aV bg bi bA aY bB
 go_upto_region 2 with fail
 try rw[aF]
 clear aF
 go_upto_region 4 with fail
 clear aC aB ah aO aN aM aL k5 f5 aH;generalize W1.setCell ⟨bb,x+s*4+3,none⟩ (.slice none 0 0)=W6 at *;obtain⟨v6,⟨e0,e1,e2,e3⟩,ax,bu⟩:=bI.out;simp only[Nat.zero_add] at e1 e2 e3;obtain rfl:v6=_:=Option.some.inj (e3.symm.trans e9)
 change W6.cell? ⟨w1.heap.size,0,none⟩=some (.int .i64 it.kind) at e0
 change W6.cell? ⟨w1.heap.size,1,none⟩=some (.string it.text) at e1
 change W6.cell? ⟨w1.heap.size,2,none⟩=some (.int .i64 it.cols) at e2
 obtain⟨aC,aB,ah,_,_,_,_,aD,aR⟩:=KB.out W6 bK.out;have bJ:=hid (aD.al (.cells #[.int .i64 it.kind,.string it.text,.int .i64 it.cols,.slice (some ⟨bb,x,none⟩) it.kids.length c] 24));have HL:=hid (Uk (T:=24) (S:=fun q=>W0.heap.size<=q/\q<W1.heap.size) (fun q hq=>by rw[bG.out];exact hq.2) (show Zt (.mk it.kind it.text it.cols (Zp it s []).kids) from ax) bu);have bW:=hid (aR.trans ((ZX W6 (.cells #[.int .i64 it.kind,.string it.text,.int .i64 it.cols,.slice (some ⟨bb,x,none⟩) it.kids.length c] 24)).mono aR.size));have aX:=hid bK.out.size;have bM:=((ZX W6 (.cells #[.int .i64 it.kind,.string it.text,.int .i64 it.cols,.slice (some ⟨bb,x,none⟩) it.kids.length c] 24)).cell (p:=⟨w.heap.size,15,none⟩) (Y2 ah)).trans ah;clear e3 ax bu aR aD bI
 go_wp2_with (first
  |(refine wpList_store_row rfl 49 (.tmp 2) (.tmp 31) rfl (w.heap.size+1) _ rfl rfl 49 _ bJ.out (by kernel_rfl) (by simp) (by simp[Value.oneCell']) ?_)
  |fail)
 refine bodyPost_ret (v:=.agg #[.int .i64 4,.slice Ao aa.length co,.int .i64 ai,.int .i64 ae.length,.slice (some ⟨W6.heap.size,0,none⟩) 1 1,.int .i64 (s:Int),.string ⟨#[]⟩,.string ⟨#[]⟩]) (results_cell_row Tryz.results56 _ _ (w.heap.size+1) 49 _ (0,0) _ rfl (setRow_heap _ _ _ _ _ _ bJ.out) Tryz.underlying49 rfl (by kernel_rfl)) rfl ?_;have hz:=bH.out;have aS:=bW.out;have bP:=aX.out;exact⟨_,_,some ⟨W6.heap.size,0,none⟩,1,rfl,bR.out.keep (fun q hq=>(World.cell?_of_block (setRow_other _ _ _ _ (by have:q.block<w.heap.size:=hq.1;omega))).trans (aS.cell hq.1)) (fun k hk=>⟨by rw[size_setRow];exact QV hk.1 aS.size,.inl hk.2⟩),
  HL.out.keep (fun q hq=>World.cell?_of_block (setRow_other _ _ _ _ (by rcases hq with hq|hq<;>omega))) (fun k hk=>by
   rw[size_setRow];have bQ:=bL.out.size;rcases hk with hk|hk
   ·rw[<-bG.out] at hk;exact⟨QV hk.2 (by simp),.inr (by omega)⟩
   rw[hk];exact⟨by simp,.inr (by omega)⟩),YV aS (by omega) _⟩
