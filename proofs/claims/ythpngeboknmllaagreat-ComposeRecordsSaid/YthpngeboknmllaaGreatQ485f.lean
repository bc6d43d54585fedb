/- T -/
import Derived.Test.YthpngeboknmllaaGreatQ7dde
set_option linter.unusedVariables false
set_option linter.unusedSimpArgs false
set_option maxHeartbeats 4000000
set_option maxRecDepth 100000
namespace Go.Proofs.YthpngeboknmllaaGreat
open Go.RowKit
theorem zU3 (S:Nat->Prop) (it:Z9) (ae:List Z9) (aa:List Int) (aj:Int) (s:Nat) (Ao Ai:Option Addr) (co ci:Nat) (x0 x1 x2 x3 x4 x5 x6 x7 x8 x9 aL aK aJ:Value) (w:World) (hv:Z8 Z6 w (Lt w.heap.size) it.kids (.slice Ai it.kids.length ci)) (aR:Zk it) (bP:ZR it<=900000) (bu:Z0 w (fun k=>k<w.heap.size/\S k) aa (.slice Ao aa.length co)) (hs:s<it.kids.length) (ax:it.kids[s]=Z7 ae) :
  Calls Tryz.prog 56 #[.agg #[x0,x1,x2,x3,x4,x5,x6,x7,x8,x9,aL,aK,aJ,.slice Ao aa.length co,.int .i64 aj,.int .i64 (s:Int),.int .i64 it.kind,.string it.text,.int .i64 it.cols,.slice Ai it.kids.length ci]] w (OpP S w ⟨4,aa,aj,ae.length,[Zj it s []],(s:Int),Zz,Zz⟩):=by
 obtain⟨W0,aH⟩:∃W0,(w.alloc (.cells #[x0,x1,x2,x3,x4,x5,x6,x7,x8,x9,aL,aK,aJ,.slice Ao aa.length co,.int .i64 aj,.int .i64 (s:Int),.int .i64 it.kind,.string it.text,.int .i64 it.cols,.slice Ai it.kids.length ci] 69)).alloc (.cells #[.int .i64 0,.slice none 0 0,.int .i64 0,.int .i64 0,.slice none 0 0,.int .i64 0,.string ⟨#[]⟩,.string ⟨#[]⟩] 49)=W0:=⟨_,rfl⟩;have bg:W0.heap.size=w.heap.size+1+1:=by rw[<-aH];simp
 have au:Below w.heap.size w W0:=by rw[<-aH];exact((Qg _ _).alloc (Qi _) _).alloc (by simp) _
 have KB:Hid (∀W,Below W0.heap.size W0 W->W.cell? ⟨w.heap.size,13,none⟩=some (.slice Ao aa.length co)/\W.cell? ⟨w.heap.size,14,none⟩=some (.int .i64 aj)/\W.cell? ⟨w.heap.size,15,none⟩=some (.int .i64 (s:Int))/\W.cell? ⟨w.heap.size,16,none⟩=some (.int .i64 it.kind)/\W.cell? ⟨w.heap.size,17,none⟩=some (.string it.text)/\W.cell? ⟨w.heap.size,18,none⟩=some (.int .i64 it.cols)/\W.cell? ⟨w.heap.size,19,none⟩=some (.slice Ai it.kids.length ci)/\Z5 W (w.heap.size+1) (.cells #[.int .i64 0,.slice none 0 0,.int .i64 0,.int .i64 0,.slice none 0 0,.int .i64 0,.string ⟨#[]⟩,.string ⟨#[]⟩] 49)/\Below w.heap.size w W):=fun W hW=>by
  have ag:Z5 W w.heap.size (.cells #[x0,x1,x2,x3,x4,x5,x6,x7,x8,x9,aL,aK,aJ,.slice Ao aa.length co,.int .i64 aj,.int .i64 (s:Int),.int .i64 it.kind,.string it.text,.int .i64 it.cols,.slice Ai it.kids.length ci] 69):=Z5.belowB (by rw[<-aH];exact(Z5.at0 _ _).al _) hW (by omega);have aF:Z5 W (w.heap.size+1) (.cells #[.int .i64 0,.slice none 0 0,.int .i64 0,.int .i64 0,.slice none 0 0,.int .i64 0,.string ⟨#[]⟩,.string ⟨#[]⟩] 49):=Z5.belowB (by rw[<-aH];exact Z5.at1 _ _ _) hW (by omega);exact⟨ag.cell 13,ag.cell 14,ag.cell 15,ag.cell 16,ag.cell 17,ag.cell 18,ag.cell 19,aF,au.trans (hW.mono au.size)⟩
 have CD:=hid (zDt it Ai ci W0 (hv.below au au.size) aR (by omega));obtain⟨aD,aC,ah,aP,aO,aN,aM,_,_⟩:=KB.out W0 (Qg _ _);have bM:=hid au;have bI:=hid bg;have bW:=hid aR;have aB:=hid ax;have HS:=hid hs;have bU:=hid bu;have i3:(0:Int)<=(s:Int):=by omega
 have i4:(s:Int)<(it.kids.length:Int):=by omega
 clear hv aR bP bu ax au bg;go_enter Tryz.func56,Tryz.ntmps56
 go_wp2_with fail
 refine CD.out.mono ?_;rintro e w1 ⟨v,T,rfl,aV,hT,aQ,az,af,_⟩;obtain⟨bb,x,c,rfl,aA⟩:=zGo aQ (by omega);obtain⟨W1,aG⟩:∃W1,w1.alloc (Obj.cells #[.int .i64 it.kind,.string it.text,.int .i64 it.cols,.slice (some ⟨bb,x,none⟩) it.kids.length c] 24)=W1:=⟨_,rfl⟩;have ak:Below w1.heap.size w1 W1:=by rw[<-aG];exact ZW _ _
 have aU:Below W0.heap.size W0 W1:=aV.trans (ak.mono aV.size);have bG:¬T w1.heap.size:=fun h=>by have:=(hT _ h).2;omega
 have av:FB W1 w1.heap.size (.int .i64 it.kind) (.string it.text) (.int .i64 it.cols) (.slice (some ⟨bb,x,none⟩) it.kids.length c):=by rw[<-aG];exact FB.new _ _ _ _ _ _ rfl
 have aX:Yo W1 T w1.heap.size 0 it:=⟨_,⟨av.1.1,av.1.2.1,av.1.2.2.1,av.1.2.2.2⟩,bW.out,aQ.keep (fun q hq=>ak.cell (hT _ hq).2) (fun _ h=>h)⟩;have aI:=av.1.2.2.2;have bD:Xb W1 T:=az.keep (fun q hq=>ak.cell (hT _ hq).2);have aW:∀k,T k->k<W1.heap.size:=fun k hk=>Qk (hT k hk).2 ak.size
 have bA:=Qw aX (by simpa using aI) HS.out;rw[aB.out] at bA;obtain⟨vi,⟨_,_,_,k5⟩,_,bn⟩:=bA;obtain⟨Ai2,ci2,rfl⟩:∃A c,vi=.slice A ae.length c:=bn.form;have f5:W1.frozen? ⟨bb,x+s*4+3,none⟩=false:=(ak.frozen (p:=⟨bb,_,none⟩) (hT _ aA).2).trans (af bb aA _);have bC:W0.heap.size<=bb/\bb<w1.heap.size:=hT bb aA;have n1:¬w.heap.size=bb:=by have:=bM.out.size;have:=bI.out;omega
 have n2':¬bb=w.heap.size:=fun e=>n1 e.symm
 have n3:¬w1.heap.size=bb:=by omega
 have n4:¬bb=w1.heap.size:=by omega
 have bq:=zIq (T':=fun q=>W0.heap.size<=q/\q<W1.heap.size) (W':=W1.setCell ⟨bb,x+s*4+3,none⟩ (.slice none 0 0)) (L:=[]) (S2:=fun _=>False) bD aW bG aX HS.out aI aA aB.out (Z8.nil_ 0 (Qj _) none) (fun q hq=>hq.elim) (fun k hk=>⟨(hT k hk).1,aW k hk⟩) (fun k hk=>hk.elim) rfl;have e9:(W1.setCell ⟨bb,x+s*4+3,none⟩ (.slice none 0 0)).cell? ⟨w1.heap.size,3,none⟩=some (.slice (some ⟨bb,x,none⟩) it.kids.length c):=(World.cell?_setCell_other _ _ _ _ (by intro e;injection e with e;omega)).trans aI;have bB:=aU.setCell (p:=⟨bb,x+s*4+3,none⟩) bC.1 (.slice none 0 0);have aZ:(W1.setCell ⟨bb,x+s*4+3,none⟩ (.slice none 0 0)).heap.size=W1.heap.size:=by simp[World.setCell]
 have bJ:=hid bq;have bL:=hid bB;have bH:=hid aZ;clear aD aC ah aP aO aN aM;obtain⟨aD,aC,ah,aP,aO,aN,aM,_,_⟩:=KB.out W1 aU;clear aQ az af aX aV ak aU hT aA bG av bD aW bn bq bB aZ bC
 go_upto_region 2 with fail
 try rw[aG]
 clear aG
 go_upto_region 4 with fail
 clear aD aC ah aP aO aN aM k5 f5 aI;generalize W1.setCell ⟨bb,x+s*4+3,none⟩ (.slice none 0 0)=W6 at *;obtain⟨v6,⟨e0,e1,e2,e3⟩,ay,bz⟩:=bJ.out;simp only[Nat.zero_add] at e1 e2 e3;obtain rfl:v6=_:=Option.some.inj (e3.symm.trans e9)
 change W6.cell? ⟨w1.heap.size,0,none⟩=some (.int .i64 it.kind) at e0
 change W6.cell? ⟨w1.heap.size,1,none⟩=some (.string it.text) at e1
 change W6.cell? ⟨w1.heap.size,2,none⟩=some (.int .i64 it.cols) at e2
 obtain⟨aD,aC,ah,_,_,_,_,aF,aS⟩:=KB.out W6 bL.out;have bK:=hid (aF.al (.cells #[.int .i64 it.kind,.string it.text,.int .i64 it.cols,.slice (some ⟨bb,x,none⟩) it.kids.length c] 24));have HL:=hid (Rh (T:=24) (S:=fun q=>W0.heap.size<=q/\q<W1.heap.size) (fun q hq=>by rw[bH.out];exact hq.2) (show Zk (.mk it.kind it.text it.cols (Zj it s []).kids) from ay) bz);have bY:=hid (aS.trans ((ZW W6 (.cells #[.int .i64 it.kind,.string it.text,.int .i64 it.cols,.slice (some ⟨bb,x,none⟩) it.kids.length c] 24)).mono aS.size));have aY:=hid bL.out.size;have bN:=((ZW W6 (.cells #[.int .i64 it.kind,.string it.text,.int .i64 it.cols,.slice (some ⟨bb,x,none⟩) it.kids.length c] 24)).cell (p:=⟨w.heap.size,15,none⟩) (Y0 ah)).trans ah;clear e3 ay bz aS aF bJ
 go_wp2_with (first
  |(refine wpList_store_row rfl 49 (.tmp 2) (.tmp 31) rfl (w.heap.size+1) _ rfl rfl 49 _ bK.out (by kernel_rfl) (by simp) (by simp[Value.oneCell']) ?_)
  |fail)
 refine bodyPost_ret (v:=.agg #[.int .i64 4,.slice Ao aa.length co,.int .i64 aj,.int .i64 ae.length,.slice (some ⟨W6.heap.size,0,none⟩) 1 1,.int .i64 (s:Int),.string ⟨#[]⟩,.string ⟨#[]⟩]) (results_cell_row Tryz.results56 _ _ (w.heap.size+1) 49 _ (0,0) _ rfl (setRow_heap _ _ _ _ _ _ bK.out) Tryz.underlying49 rfl (by kernel_rfl)) rfl ?_;have hz:=bI.out;have aT:=bY.out;have bQ:=aY.out;exact⟨_,_,some ⟨W6.heap.size,0,none⟩,1,rfl,bU.out.keep (fun q hq=>(World.cell?_of_block (setRow_other _ _ _ _ (by have:q.block<w.heap.size:=hq.1;omega))).trans (aT.cell hq.1)) (fun k hk=>⟨by rw[size_setRow];exact Qk hk.1 aT.size,.inl hk.2⟩),
  HL.out.keep (fun q hq=>World.cell?_of_block (setRow_other _ _ _ _ (by rcases hq with hq|hq<;>omega))) (fun k hk=>by
   rw[size_setRow];have bR:=bM.out.size;rcases hk with hk|hk
   ·rw[<-bH.out] at hk;exact⟨Qk hk.2 (by simp),.inr (by omega)⟩
   rw[hk];exact⟨by simp,.inr (by omega)⟩),Y6 aT (by omega) _⟩
