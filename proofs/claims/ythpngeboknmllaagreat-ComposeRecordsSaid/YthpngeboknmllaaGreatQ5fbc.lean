/- T -/
import Derived.Test.YthpngeboknmllaaGreatQ4b31
import Derived.Test.YthpngeboknmllaaGreatQc8a0
set_option linter.unusedVariables false
set_option linter.unusedSimpArgs false
set_option maxHeartbeats 2000000
set_option maxRecDepth 100000
namespace Go.Proofs.YthpngeboknmllaaGreat
open Go.RowKit
theorem bAl {W X:World} (h:Below W.heap.size W X) (o:Obj):Below W.heap.size W (X.alloc o):=h.alloc h.size o
theorem S9 (W:World) (o:Obj) (b:Nat) (hb:b=W.heap.size):(W.alloc o).heap[b]?=some o:=by subst hb;exact heap_alloc_new W o
def Z5 (W:World) (g:Nat) (o:Obj):Prop:=W.heap[g]?=some o
theorem Z5.lt {W:World} {g:Nat} {o:Obj} (h:Z5 W g o):g<W.heap.size:=(Array.getElem?_eq_some_iff.1 h).1
theorem Z5.new (W:World) (o:Obj) (g:Nat) (hg:g=W.heap.size):Z5 (W.alloc o) g o:=S9 W o g hg
theorem Z5.al {W:World} {g:Nat} {o:Obj} (o':Obj) (h:Z5 W g o):Z5 (W.alloc o') g o:=(Below.heap_alloc _ _ _ h.lt).trans h
theorem Z5.dr {W:World} {g:Nat} {o:Obj} (h:Z5 W g o):Z5 W.drew g o:=h
theorem Z5.at0 (W:World) (o:Obj):Z5 (W.alloc o) W.heap.size o:=Z5.new W o _ rfl
theorem Z5.at1 (W:World) (p o:Obj):Z5 ((W.alloc p).alloc o) (W.heap.size+1) o:=Z5.new _ o _ (by simp)
theorem Z5.at2 (W:World) (p p' o:Obj):Z5 (((W.alloc p).alloc p').alloc o) (W.heap.size+1+1) o:=Z5.new _ o _ (by simp)
theorem Z5.below {W W':World} {g:Nat} {o:Obj} (h:Z5 W g o) (hb:Below W.heap.size W W'):Z5 W' g o:=(hb.block g h.lt).trans h
theorem Z5.grown {W W':World} {g:Nat} {o:Obj} {row:Option Nat} (h:Z5 W g o) (hg:W.grownBy W' row) (hn:some g≠row):Z5 W' g o:=(hg.block g h.lt hn).trans h
def Ug (w w':World) (k:Nat):Prop:=w.heap.size<=k/\k<w'.heap.size
theorem Z5.cell {W:World} {g:Nat} {arr:Array Value} {T:TypeId} (h:Z5 W g (.cells arr T)):∀j,W.cell? ⟨g,j,none⟩=arr[j]?:=fun j=>cell_of_row W g j arr T (0,0) h
theorem Z5.free {W:World} {g:Nat} {arr:Array Value} {T:TypeId} (h:Z5 W g (.cells arr T)):∀j,W.frozen? ⟨g,j,none⟩=false:=fun j=>by unfold Z5 at h;simp[World.frozen?,h]
theorem Z5.set {W:World} {g i:Nat} {arr:Array Value} {T:TypeId} (h:Z5 W g (.cells arr T)) (v:Value):Z5 (W.setCell ⟨g,i,none⟩ v) g (.cells (arr.setIfInBounds i v) T):=heap_setCell_same W g i arr T v h
theorem Z5.far {W:World} {g g' i:Nat} {o:Obj} (h:Z5 W g o) (v:Value) (aa:g≠g'):Z5 (W.setCell ⟨g',i,none⟩ v) g o:=(Below.heap_setCell W ⟨g',i,none⟩ v g aa).trans h
theorem Z5.belowB {W W':World} {g B:Nat} {o:Obj} (h:Z5 W g o) (hb:Below B W W') (hg:g<B):Z5 W' g o:=(hb.block g hg).trans h
theorem Z5.row {W:World} {g:Nat} {arr:Array Value} {T:TypeId} (h:Z5 W g (.cells arr T)) (cs:Array Value):Z5 (W.setRow g cs) g (.cells cs T):=setRow_heap W g arr cs T (0,0) h
theorem Y6 {B:Nat} {w W:World} (h:Below B w W) {g:Nat} (hg:B<=g) (cs:Array Value):Below B w (W.setRow g cs):=⟨h.os,h.tape,h.output,by rw[size_setRow];exact h.size,fun k hk=>by rw[setRow_other _ _ _ _ (by omega)];exact h.block k hk⟩
theorem zO1 (op:ZL) (Ar An:Option Addr) (cr cn:Nat) (w:World) (hr:Z0 w (Lt w.heap.size) op.row (.slice Ar op.row.length cr)) (hn:Z8 Z6 w (Lt w.heap.size) op.nodes (.slice An op.nodes.length cn)) (aI:op.row.length<=1000000) (aL:ZQ op.nodes<=1000000) :
  Calls Tryz.prog 85 #[.agg (Zm op (.slice Ar op.row.length cr) (.slice An op.nodes.length cn))] w fun e w'=>∃aU aN aV aO,e=.returned (.agg (Zm op (.slice aU op.row.length aN) (.slice aV op.nodes.length aO)))/\Z0 w' (Ug w w') op.row (.slice aU op.row.length aN)/\Z8 Z6 w' (Ug w w') op.nodes (.slice aV op.nodes.length aO)/\Below w.heap.size w w':=by
 obtain⟨W0,av⟩:∃W0,(w.alloc (.cells (Zm op (.slice Ar op.row.length cr) (.slice An op.nodes.length cn)) 49)).alloc (.cells #[.int .i64 0,.slice none 0 0,.int .i64 0,.int .i64 0,.slice none 0 0,.int .i64 0,.string ⟨#[]⟩,.string ⟨#[]⟩] 49)=W0:=⟨_,rfl⟩;have aH:W0.heap.size=w.heap.size+1+1:=by rw[<-av];simp
 have au:Below w.heap.size w W0:=by rw[<-av];exact((Qg _ _).alloc (Qi _) _).alloc (by simp) _
 have ae:Z5 W0 w.heap.size (.cells (Zm op (.slice Ar op.row.length cr) (.slice An op.nodes.length cn)) 49):=by rw[<-av];exact(Z5.at0 _ _).al _
 have aK:Z5 W0 (w.heap.size+1) (.cells #[.int .i64 0,.slice none 0 0,.int .i64 0,.int .i64 0,.slice none 0 0,.int .i64 0,.string ⟨#[]⟩,.string ⟨#[]⟩] 49):=by rw[<-av];exact Z5.at1 _ _ _
 have CI:=hid (zEe op.row W0 _ (hr.below au au.size) aI);have CN:Hid (∀W,Below w.heap.size w W->Calls Tryz.prog 114 #[.slice An op.nodes.length cn] W (zMh W op.nodes)):=fun W hW=>zGe op.nodes _ W (hn.below hW hW.size) aL
 have aT:=hid au;have ay:=hid aH;have aZ:=hid ae;have aY:=hid aK;have m1:W0.cell? ⟨w.heap.size,1,none⟩=some (.slice Ar op.row.length cr):=ae.cell 1;obtain⟨kind,row,at_,n,nodes,slot,old,text⟩:=op;simp only[Zm] at *;clear hr hn aI aL au aH ae aK;go_enter Tryz.func85,Tryz.ntmps85
 go_wp2_with fail
 refine CI.out.mono ?_;rintro e w1 ⟨v1,rfl,ae,ak⟩;obtain⟨A1,c1,rfl⟩:=(ae.ints (S:=fun _=>True) (fun _ _ _=>trivial)).form;have aA:Z0 w1 (fun k=>W0.heap.size<=k/\k<w1.heap.size) row (.slice A1 row.length c1):=ae.ints (fun k h1 h2=>⟨h1,h2⟩);have HRI:=hid aA;have aa:=aZ.out.below ak;have aj:=aY.out.below ak;have bu:=hid (aT.out.trans (ak.mono aT.out.size));have m1:w1.cell? ⟨w.heap.size,1,none⟩=some (.slice Ar row.length cr):=aa.cell 1;have f1:w1.frozen? ⟨w.heap.size,1,none⟩=false:=aa.free 1;have af:=aa.set (i:=1) (.slice A1 row.length c1);have ah:=aj.far (g':=w.heap.size) (i:=1) (.slice A1 row.length c1) (by omega);have m4:(w1.setCell ⟨w.heap.size,1,none⟩ (.slice A1 row.length c1)).cell? ⟨w.heap.size,4,none⟩=some (.slice An nodes.length cn):=af.cell 4;have aX:=hid af;have aW:=hid ah;have aG:Hid (Below w.heap.size w (w1.setCell ⟨w.heap.size,1,none⟩ (.slice A1 row.length c1))):=bu.out.setCell (p:=⟨w.heap.size,1,none⟩) (Qi _) _;have aF:Hid (Z0 (w1.setCell ⟨w.heap.size,1,none⟩ (.slice A1 row.length c1)) (fun k=>W0.heap.size<=k/\k<w1.heap.size) row (.slice A1 row.length c1)):=aA.keep (fun q hq=>World.cell?_setCell_other _ _ _ _ (by intro e;have h9:=hq.1;rw[<-e] at h9;have:=ay.out;simp only at h9;omega)) (fun _ h=>h);have ax:Hid ((w1.setCell ⟨w.heap.size,1,none⟩ (.slice A1 row.length c1)).heap.size=w1.heap.size):=by show _=_;simp[World.setCell]
 have aQ:=hid ak.size;clear ae ak aA aa aj af ah
 go_upto_region 2 with fail
 clear m1 f1;generalize (w1.setCell ⟨w.heap.size,1,none⟩ (.slice A1 row.length c1))=W2 at *
 go_wp2_with fail
 refine(CN.out W2 aG.out).mono ?_;rintro e w3 ⟨v3,rfl,aJ,ag⟩;have az:=aJ.rows;obtain⟨A3,c3,rfl⟩:=az.form;have aa:=aX.out.below ag;have aj:=aW.out.below ag;have bq:=hid (aG.out.trans (ag.mono aG.out.size));have m4:w3.cell? ⟨w.heap.size,4,none⟩=some (.slice An nodes.length cn):=aa.cell 4;have f4:w3.frozen? ⟨w.heap.size,4,none⟩=false:=aa.free 4;have af:=aa.set (i:=4) (.slice A3 nodes.length c3);have ah:=aj.far (g':=w.heap.size) (i:=4) (.slice A3 nodes.length c3) (by omega);have bn:Hid (Below w.heap.size w (w3.setCell ⟨w.heap.size,4,none⟩ (.slice A3 nodes.length c3))):=bq.out.setCell (p:=⟨w.heap.size,4,none⟩) (Qi _) _;have aP:Hid ((w3.setCell ⟨w.heap.size,4,none⟩ (.slice A3 nodes.length c3)).heap.size=w3.heap.size):=by show _=_;simp[World.setCell]
 have aD:Hid (Z0 (w3.setCell ⟨w.heap.size,4,none⟩ (.slice A3 nodes.length c3)) (fun k=>W0.heap.size<=k/\k<w3.heap.size) row (.slice A1 row.length c1)):=aF.out.keep (fun q hq=>(World.cell?_setCell_other _ _ _ _ (by intro e;have h9:=hq.1;rw[<-e] at h9;have:=ay.out;simp only at h9;omega)).trans (ag.cell (by rw[ax.out];exact hq.2))) (fun k hk=>⟨hk.1,by have:=ag.size;rw[ax.out] at this;exact Qk hk.2 this⟩);have aC:Hid (Z8 Z6 (w3.setCell ⟨w.heap.size,4,none⟩ (.slice A3 nodes.length c3)) (fun k=>W0.heap.size<=k/\k<w3.heap.size) nodes (.slice A3 nodes.length c3)):=az.keep (fun q hq=>World.cell?_setCell_other _ _ _ _ (by intro e;have h9:=hq.1;rw[<-e] at h9;rw[ax.out] at h9;have:=aQ.out;have:=ay.out;simp only at h9;omega)) (fun k hk=>⟨by have h9:=hk.1;rw[ax.out] at h9;have:=aQ.out;omega,hk.2⟩);have aS:=hid af;have aR:=hid ah;clear aJ ag az aa aj af ah
 go_upto_region 3 with fail
 clear m4 f4;generalize (w3.setCell ⟨w.heap.size,4,none⟩ (.slice A3 nodes.length c3))=W4 at *;have aB:=aS.out;simp only[List.setIfInBounds_toArray,List.set_cons_zero,List.set_cons_succ] at aB;have bg:=hid aB;clear aB aS
 go_wp2_with (first
  |(refine wpList_load_row rfl 49 (.tmp 1) rfl w.heap.size rfl 49 _ (0,0) _ bg.out Tryz.underlying49 rfl (by kernel_rfl) ?_)
  |(refine wpList_store_row rfl 49 (.tmp 2) (.tmp 11) rfl (w.heap.size+1) _ rfl rfl 49 _ aR.out (by kernel_rfl) (by simp) (by simp[Value.oneCell']) ?_))
 refine bodyPost_ret (v:=.agg #[.int .i64 kind,.slice A1 row.length c1,.int .i64 at_,.int .i64 n,.slice A3 nodes.length c3,.int .i64 slot,.string old,.string text]) (results_cell_row Tryz.results85 _ _ (w.heap.size+1) 49 _ (0,0) _ rfl (setRow_heap _ _ _ _ _ _ aR.out) Tryz.underlying49 rfl (by kernel_rfl)) rfl ?_;have HZZ:=ay.out;have aM:∀q:Addr,W0.heap.size<=q.block->(W4.setRow (w.heap.size+1) #[.int .i64 kind,.slice A1 row.length c1,.int .i64 at_,.int .i64 n,.slice A3 nodes.length c3,.int .i64 slot,.string old,.string text]).cell? q=W4.cell? q:=fun q hq=>World.cell?_of_block (setRow_other _ _ _ _ (by omega))
 exact⟨A1,c1,A3,c3,rfl,aD.out.keep (fun q hq=>aM q hq.1) (fun k hk=>⟨by have:=hk.1;omega,by rw[size_setRow,aP.out];exact hk.2⟩),aC.out.keep (fun q hq=>aM q hq.1) (fun k hk=>⟨by have:=hk.1;omega,by rw[size_setRow,aP.out];exact hk.2⟩),Y6 bn.out (by omega) _⟩
def zN:Value:=.agg #[.int .i64 0,.string ⟨#[]⟩,.int .i64 0,.slice none 0 0]
def QR (w:World) (e:Ending) (w':World):Prop:=∃v,e=.returned v/\w'.ownsRow w.heap.size 24 4 v 0 []/\Below w.heap.size w w'
theorem zQf (w:World) (n:Nat) (hn:n<=1000000000):Calls Tryz.prog 181 #[.slice none 0 0,.int .i64 n] w (QR w):=by
 obtain⟨i0,ak,aj,hz1,ah⟩:=info_parts Rn;rcases Nat.eq_zero_or_pos n with h0|h0
 ·subst h0;go_enter Tryz.func181,Tryz.ntmps181
  go_wp2
  go_ret;exact⟨_,rfl,⟨by simp,.inl ⟨rfl,rfl⟩⟩,Qg _ _⟩
 have af:∀ty,(Builtin.append_ #[22,3] ty #[.slice none 0 0,.int .i64 (n:Int)]).run Tryz.prog w =
   .ok (.slice (some ⟨w.heap.size,0,none⟩) n (grownCap w n 0 24)) (w.drew.alloc (.cells (Builtin.zeroCells zN.cells n++Builtin.zeroCells zN.cells (grownCap w n 0 24-n)) 24)):=fun ty=>by
  have h:=Lib.run_append_grow_zeros (P:=Tryz.prog) w 22 3 ty 24 i0 zN .i64 .i64 Tryz.underlying22 Tryz.underlying3 ak aj none 0 0 []
   (run_firstCells_none w.drew i0.size 0 0 0) n h0 (by omega) (by omega) (by omega) (by rw[ah];omega)
   (by rw[ah];exact growslice_fits (by omega) (by omega))
  simpa using h
 have au:n<=grownCap w n 0 24:=grownCap_ge w _ _ _;have ag:=grownCap_le_maxLen w n 0 24 (by unfold maxLen;omega);have aa:Below w.heap.size w (w.drew.alloc (.cells (Builtin.zeroCells zN.cells n++Builtin.zeroCells zN.cells (grownCap w n 0 24-n)) 24)):=(Qg _ _).drew.alloc (Qi _) _;have ae:(w.drew.alloc (.cells (Builtin.zeroCells zN.cells n++Builtin.zeroCells zN.cells (grownCap w n 0 24-n)) 24)).ownsRow w.heap.size 24 4 (.slice (some ⟨w.heap.size,0,none⟩) 0 (grownCap w n 0 24)) 0 [] :=
  World.ownsRow_made w.drew _ _ (Qi _) ag (by rw[Array.size_append,size_zeroCells,size_zeroCells];simp[Value.cells,zN];omega)
 obtain⟨G,hG⟩:∃G,G=grownCap w n 0 24:=⟨_,rfl⟩;rw[<-hG] at af au ag aa ae;unfold maxLen at ag;obtain⟨W,hW⟩:∃W,W=(w.drew.alloc (.cells (Builtin.zeroCells zN.cells n++Builtin.zeroCells zN.cells (G-n)) 24)):=⟨_,rfl⟩;rw[<-hW] at af aa ae;have HO:=hid ae;have HB:=hid aa;clear ae aa hG hW;go_enter Tryz.func181,Tryz.ntmps181
 go_wp2_with (at_builtin;refine Lib.wpList_append_run _ rfl _ _ _ _ rfl _ _ rfl rfl _ _ (af _) ?_)
 go_ret;exact⟨_,rfl,HO.out,HB.out⟩
theorem zNt {w:World} {S:Nat->Prop} {xss:List (List Z9)} {A:Option Addr} {cs:List Value} (h3:Zd w S A cs) (h4:ZG (XK Z6) w S xss cs) {k:Nat} (hk:k<xss.length) :
  ∃g o A' cap',A=some ⟨g,o,none⟩/\S g/\w.cell? ⟨g,o+k,none⟩=some (.slice A' xss[k].length cap')/\Z8 Z6 w S xss[k] (.slice A' xss[k].length cap'):=by
 obtain⟨g,o,c,e,hb,⟨v,rfl,A',cap',rs,rfl,h⟩,hc⟩:=RB h3 h4 hk;exact⟨g,o,A',cap',e,hb,by simpa[XK] using hc 0 _ rfl,A',cap',rs,rfl,h⟩
def Xd (xss:List (List Z9)):Nat:=xss.flatten.length
theorem zHj (xss:List (List Z9)) (k:Nat):Xd (xss.take k)<=Xd xss:=by
 unfold Xd
 conv=>rhs;rw[<-List.take_append_drop k xss]
 rw[List.flatten_append,List.length_append];omega
theorem zGr (xss:List (List Z9)) {k:Nat} (hk:k<xss.length):(xss.take (k+1)).flatten=(xss.take k).flatten++xss[k]:=by
 rw[List.take_succ_eq_append_getElem hk,List.flatten_append,List.flatten_cons,List.flatten_nil,List.append_nil]
theorem zNd (xss:List (List Z9)) (w:World) (v:Value) (S:Nat->Prop) (hS:∀q,S q->q<w.heap.size) (hv:Z8 (XK Z6) w S xss v) (aj:xss.flatten.length<=1000000) :
  Calls Tryz.prog 177 #[v] w (XL S w xss.flatten):=by
 obtain⟨A,cap,rs,rfl,aJ,au,ay,az⟩:=hv;unfold maxLen at au;have hl1:xss.length<=9223372036854775807:=by omega
 have HS:=hid hS;have H:Hid (∀W,Below w.heap.size w W->Zd W S A rs/\ZG (XK Z6) W S xss rs):=fun W hW=>⟨ay.keep (fun q hq=>hW.cell (hS _ hq)) (fun _ h=>h),az.keep (fun q hq=>hW.cell (hS _ hq)) (fun _ h=>h)⟩
 clear ay az hS;have aG:Xd xss<=1000000:=aj;clear aj;go_enter Tryz.func177,Tryz.ntmps177
 go_wp2
 go_loop [3,11] (fun s i=>∃k:Nat,k<=xss.length/\i=.int .i64 k/\s=.int .i64 (Xd (xss.take k))) (fun _ i=>xss.length-(intOf i).toNat)
 case atStart=>exact⟨0,Qj _,rfl,rfl⟩
 obtain⟨k,hk,rfl,rfl⟩:=hrel;have aI:=zHj xss k;by_cases ag:k<xss.length
 ·obtain⟨g,o,A',cap',rfl,hg,c0,_⟩:=zNt (H.out w (Qg _ _)).1 (H.out w (Qg _ _)).2 ag
  replace hg:=HS.out _ hg
  have aH:=zHj xss (k+1);have HF:Hid (Xd (xss.take (k+1))=Xd (xss.take k)+xss[k].length):=by show _=_;unfold Xd;rw[zGr xss ag,List.length_append]
  have aB:Xd (xss.take k)+xss[k].length<=1000000:=by rw[<-HF.out];omega
  have aF:decide ((Xd (xss.take k):Int)+(xss[k].length:Int)<0)=false:=by simp;omega
  go_wp2
  go_round
  case rel=>exact⟨k+1,by omega,by go_num,by rw[HF.out];go_num⟩
  case measure=>simp[intOf];omega
 have aA:Xd (xss.take k)=Xd xss:=by rw[List.take_of_length_le (by omega)]
 rw[aA];clear aA
 go_wp2_with fail
 refine(zQf w (Xd xss) (by omega)).mono ?_;rintro e w1 ⟨v1,rfl,af,av⟩;have HO:Hid (Zq w1 w.heap.size S [] v1/\Below w.heap.size w w1):=⟨⟨[],af,rfl⟩,av⟩;have ak:=av.size;clear af av
 go_wp2_with fail
 go_loopw [6,27] (fun s i wr=>Below w.heap.size w1 wr/\∃k:Nat,k<=xss.length/\i=.int .i64 k/\Zq wr w.heap.size S (xss.take k).flatten s) (fun _ i _=>xss.length-(intOf i).toNat)
 case atStart=>exact⟨Qg _ _,0,Qj _,rfl,by simpa using HO.out.1⟩
 obtain⟨ah,k,hk,rfl,aa⟩:=hrel;have aI:=zHj xss k;by_cases ag:k<xss.length
 ·obtain⟨g,o,A',cap',rfl,hg,c0,hr⟩:=zNt (H.out wr (HO.out.2.trans ah)).1 (H.out wr (HO.out.2.trans ah)).2 ag
  replace hg:=HS.out _ hg
  have aH:=zHj xss (k+1);have HF:Hid (Xd (xss.take (k+1))=Xd (xss.take k)+xss[k].length):=by show _=_;unfold Xd;rw[zGr xss ag,List.length_append]
  have aB:Xd (xss.take k)+xss[k].length<=1000000:=by rw[<-HF.out];omega
  have aD:w.heap.size<=wr.heap.size:=Qf ak ah.size;have aK:=hid hr;have ax:=hid aa;clear hr aa aG
  go_wp2_with (at_builtin;refine Wd rfl (.tmp 31) (.tmp 32) rfl w.heap.size S HS.out _ (xss.take k).flatten xss[k] rfl ax.out _ _ _ rfl aK.out (by unfold Xd at aB;omega) aD ?_;intro v2 w2 ae aC)
  have aM:=hid aC;have aL:=hid ae;clear aC ae;go_roundw
  case rel=>exact⟨ah.trans aM.out,k+1,by omega,by go_num,by rw[zGr xss ag];exact aL.out⟩
  case measure=>simp[intOf];omega
 have he:xss.take k=xss:=List.take_of_length_le (by omega);rw[he] at aa;have ax:=hid aa;have HB:=hid ah;clear he aa ah
 go_wp2_with fail
 go_ret;exact⟨_,rfl,ax.out.rowsN,HO.out.2.trans HB.out⟩
theorem zO4 (xs:List Z9) (w:World) (v:Value) (S:Nat->Prop) (hS:∀q,S q->q<w.heap.size) (hv:Z8 Z6 w S xs v) (aj:xs.length<=1000000) :
  Calls Tryz.prog 174 #[v] w (XL S w xs):=by
 have HV:=hid hv;obtain⟨A,cap,rs,rfl,ak,af,aa,ah⟩:=hv;unfold maxLen at af;have hl1:xs.length<=9223372036854775807:=by omega
 have HL:Hid (rs.length=xs.length*4):=ah.len;have HS:=hid hS;clear ah hS;rcases A with _|ad
 ·have h0:xs.length=0:=by
   rcases Nat.eq_zero_or_pos xs.length with h0|h0
   ·exact h0
   obtain⟨ad,h⟩:=aa.some_ (by rw[HL.out];omega);cases h
  have hx:xs=[]:=List.eq_nil_of_length_eq_zero h0;subst hx;clear aa HL HV;have hn:=fun w=>Lib.run_eql_slice_nil (P:=Tryz.prog) w
  go_enter Tryz.func174,Tryz.ntmps174
  go_wp2
  go_ret;exact⟨_,rfl,Z8.nil_ 0 (Qj _) none,Qg _ _⟩
 have ag:Below w.heap.size w (w.alloc (.cells #[] 24)):=ZW _ _;have av:Hid (Z8 Z6 (w.alloc (.cells #[] 24)) S xs (.slice (some ad) xs.length cap)):=HV.out.keep (fun q hq=>ag.cell (HS.out _ hq)) (fun _ h=>h);have HB:=hid ag;have hn:=fun w=>Lib.run_eql_slice_nil (P:=Tryz.prog) w
 clear aa HL HV ag;go_enter Tryz.func174,Tryz.ntmps174
 go_wp2_with (at_builtin;refine Wd rfl (.tmp 5) (.tmp 6) rfl w.heap.size S HS.out _ [] xs rfl (Zq.empty w S) _ _ _ rfl av.out (by simp;omega) (by simp) ?_;intro v' w' ae au)
 go_ret;exact⟨_,rfl,Zq.rowsN (ts:=xs) ae,HB.out.trans au⟩
theorem zOw (k s:Int) (items:List Z9) (x:ByteArray) (f:Bool) (An:Option Addr) (cn:Nat) (w:World) (hn:Z8 Z6 w (Lt w.heap.size) items (.slice An items.length cn)) (hx:x.size<=maxLen) :
  Calls Tryz.prog 20 #[.agg #[.int .i64 k,.slice An items.length cn,.int .i64 s,.string x,.bool f]] w fun e w'=>e=.returned (.bool (X4 (Z7 items) 100&&decide ((x.size:Int)<=300)))/\Below w.heap.size w w':=by
 obtain⟨W0,af⟩:∃W0,w.alloc (.cells #[.int .i64 k,.slice An items.length cn,.int .i64 s,.string x,.bool f] 30)=W0:=⟨_,rfl⟩;have aa:Below w.heap.size w W0:=by rw[<-af];exact ZW _ _
 have ho:Z5 W0 w.heap.size (.cells #[.int .i64 k,.slice An items.length cn,.int .i64 s,.string x,.bool f] 30):=by rw[<-af];exact Z5.at0 _ _
 have CF:Hid (∀W,Below W0.heap.size W0 W->Calls Tryz.prog 19 #[.agg #[.int .i64 1,.string ⟨#[]⟩,.int .i64 0,.slice An items.length cn],.int .i64 100] W fun e w'=>e=.returned (.bool (X4 (Z7 items) 100))/\Below W.heap.size W w'):=fun W hW=>zQi (Z7 items) W _ 100 ((hn.below aa aa.size).below hW hW.size) (by omega) (by omega)
 have HO:=hid ho;have ax:=hid aa;have m1:=ho.cell 1;simp only[List.getElem?_toArray,List.getElem?_cons_zero,List.getElem?_cons_succ] at m1;obtain⟨bf,aj⟩:∃bf,X4 (Z7 items) 100=bf:=⟨_,rfl⟩;rw[aj] at CF ⊢;obtain⟨bx,au⟩:∃bx,decide ((x.size:Int)<=300)=bx:=⟨_,rfl⟩;clear hn aa ho aj;go_enter Tryz.func20,Tryz.ntmps20
 go_wp2_with fail
 refine(zPg _ _ _ _).mono ?_;rintro e w1 ⟨rfl,ak⟩;have ag:=hid ak;clear ak m1 af
 go_wp2_with fail
 refine(CF.out _ ag.out).mono ?_;rintro e w2 ⟨rfl,ae⟩;have ah:=(HO.out.below ag.out).below ae;have av:=hid (Zo (Zo ax.out ag.out) ae);have m3:=ah.cell 3;simp only[List.getElem?_toArray,List.getElem?_cons_zero,List.getElem?_cons_succ] at m3;clear ae ah;cases bf
 all_goals
  go_wp2_with fail
  go_ret;exact⟨by simp[au],av.out⟩
def Qv (t:Z9) (p m:List Int) (items:List Z9) (x:ByteArray):Bool:=X4 t 300&&(decide ((p.length:Int)<=60)&&(decide ((m.length:Int)<=60)&&(X4 (Z7 items) 100&&decide ((x.size:Int)<=300))))
theorem zQj (t:Z9) (p m:List Int) (k s:Int) (items:List Z9) (x:ByteArray) (f:Bool) (A Ap Am An:Option Addr) (cap cp cm cn:Nat) (w:World) (hv:Z8 Z6 w (Lt w.heap.size) t.kids (.slice A t.kids.length cap)) (hn:Z8 Z6 w (Lt w.heap.size) items (.slice An items.length cn)) (hx:x.size<=maxLen) :
  Calls Tryz.prog 7 #[.agg #[.int .i64 t.kind,.string t.text,.int .i64 t.cols,.slice A t.kids.length cap],.agg #[.slice Ap p.length cp,.slice Am m.length cm],.agg #[.int .i64 k,.slice An items.length cn,.int .i64 s,.string x,.bool f]] w fun e w'=>e=.returned (.bool (Qv t p m items x))/\Below w.heap.size w w':=by
 obtain⟨W0,ag⟩:∃W0,((w.alloc (.cells #[.int .i64 t.kind,.string t.text,.int .i64 t.cols,.slice A t.kids.length cap] 24)).alloc (.cells #[.slice Ap p.length cp,.slice Am m.length cm] 27)).alloc (.cells #[.int .i64 k,.slice An items.length cn,.int .i64 s,.string x,.bool f] 30)=W0:=⟨_,rfl⟩;have aa:Below w.heap.size w W0:=by rw[<-ag];exact Zy (Zy (ZW _ _) _) _
 have ae:Z5 W0 w.heap.size (.cells #[.int .i64 t.kind,.string t.text,.int .i64 t.cols,.slice A t.kids.length cap] 24):=by rw[<-ag];exact((Z5.at0 _ _).al _).al _
 have au:Z5 W0 (w.heap.size+1) (.cells #[.slice Ap p.length cp,.slice Am m.length cm] 27):=by rw[<-ag];exact(Z5.at1 _ _ _).al _
 have ak:Z5 W0 (w.heap.size+1+1) (.cells #[.int .i64 k,.slice An items.length cn,.int .i64 s,.string x,.bool f] 30):=by rw[<-ag];exact Z5.at2 _ _ _ _
 have CF:Hid (Calls Tryz.prog 19 #[.agg #[.int .i64 t.kind,.string t.text,.int .i64 t.cols,.slice A t.kids.length cap],.int .i64 300] W0 fun e w'=>e=.returned (.bool (X4 t 300))/\Below W0.heap.size W0 w'):=zQi t W0 _ 300 (hv.below aa aa.size) (by omega) (by omega);have CR:Hid (∀W,Below W0.heap.size W0 W->Calls Tryz.prog 20 #[.agg #[.int .i64 k,.slice An items.length cn,.int .i64 s,.string x,.bool f]] W fun e w'=>e=.returned (.bool (X4 (Z7 items) 100&&decide ((x.size:Int)<=300)))/\Below W.heap.size W w'):=fun W hW=>zOw k s items x f An cn W ((hn.below aa aa.size).below hW hW.size) hx
 have aF:=hid aa;have m0:=ae.cell 0;have m1:=ae.cell 1;have m2:=ae.cell 2;have m3:=ae.cell 3;simp only[List.getElem?_toArray,List.getElem?_cons_zero,List.getElem?_cons_succ] at m0 m1 m2 m3;have aC:=hid au;have aB:=hid ak;unfold Qv;obtain⟨bf,ax⟩:∃bf,X4 t 300=bf:=⟨_,rfl⟩;rw[ax] at CF ⊢;obtain⟨br,av⟩:∃br,(X4 (Z7 items) 100&&decide ((x.size:Int)<=300))=br:=⟨_,rfl⟩;rw[av] at CR ⊢;obtain⟨b1,aj⟩:∃b1,decide ((p.length:Int)<=60)=b1:=⟨_,rfl⟩;obtain⟨b2,az⟩:∃b2,decide ((m.length:Int)<=60)=b2:=⟨_,rfl⟩;clear hv hn aa ae au ak ax av;go_enter Tryz.func7,Tryz.ntmps7
 go_wp2_with fail
 refine CF.out.mono ?_;rintro e w1 ⟨rfl,af⟩;have ah:=hid (Zo aF.out af);have aA:=hid af;have h2:=aC.out.below af;have h3:=aB.out.below af;have n0:=h2.cell 0;have n1:=h2.cell 1;have c0:=h3.cell 0;have c1:=h3.cell 1;have c2:=h3.cell 2;have c3:=h3.cell 3;have c4:=h3.cell 4;simp only[List.getElem?_toArray,List.getElem?_cons_zero,List.getElem?_cons_succ] at n0 n1 c0 c1 c2 c3 c4;clear af h2 h3 m0 m1 m2 m3 ag CF;cases bf
 case false =>
  go_wp2_with fail
  go_ret;exact⟨by simp,ah.out⟩
 cases b1
 case false =>
  go_wp2_with fail
  go_ret;exact⟨by simp[aj],ah.out⟩
 cases b2
 case false =>
  go_wp2_with fail
  go_ret;exact⟨by simp[aj,az],ah.out⟩
 go_wp2_with fail
 refine(CR.out _ aA.out).mono ?_;rintro e w2 ⟨rfl,ay⟩;have aD:=hid (Zo ah.out ay);clear ay n0 n1 c0 c1 c2 c3 c4
 go_wp2_with fail
 go_ret;exact⟨by simp[aj,az],aD.out⟩
