/- T -/
import Derived.Test.YthpngeboknmllaaGreatQ71f3
import Derived.Test.YthpngeboknmllaaGreatQb7c8
import Derived.Laws.ResultCell
import Derived.KernelRfl
set_option linter.unusedVariables false
set_option linter.unusedSimpArgs false
set_option maxHeartbeats 2000000
set_option maxRecDepth 100000
namespace Go.Proofs.YthpngeboknmllaaGreat
open Go.RowKit
theorem bAl {W X:World} (h:Below W.heap.size W X) (o:Obj):Below W.heap.size W (X.alloc o):=h.alloc h.size o
theorem Uh (W:World) (o:Obj) (b:Nat) (hb:b=W.heap.size):(W.alloc o).heap[b]?=some o:=by subst hb;exact heap_alloc_new W o
def Z5 (W:World) (g:Nat) (o:Obj):Prop:=W.heap[g]?=some o
theorem Z5.lt {W:World} {g:Nat} {o:Obj} (h:Z5 W g o):g<W.heap.size:=(Array.getElem?_eq_some_iff.1 h).1
theorem Z5.new (W:World) (o:Obj) (g:Nat) (hg:g=W.heap.size):Z5 (W.alloc o) g o:=Uh W o g hg
theorem Z5.al {W:World} {g:Nat} {o:Obj} (o':Obj) (h:Z5 W g o):Z5 (W.alloc o') g o:=(Below.heap_alloc _ _ _ h.lt).trans h
theorem Z5.dr {W:World} {g:Nat} {o:Obj} (h:Z5 W g o):Z5 W.drew g o:=h
theorem Z5.at0 (W:World) (o:Obj):Z5 (W.alloc o) W.heap.size o:=Z5.new W o _ rfl
theorem Z5.at1 (W:World) (p o:Obj):Z5 ((W.alloc p).alloc o) (W.heap.size+1) o:=Z5.new _ o _ (by simp)
theorem Z5.at2 (W:World) (p p' o:Obj):Z5 (((W.alloc p).alloc p').alloc o) (W.heap.size+1+1) o:=Z5.new _ o _ (by simp)
theorem Z5.below {W W':World} {g:Nat} {o:Obj} (h:Z5 W g o) (hb:Below W.heap.size W W'):Z5 W' g o:=(hb.block g h.lt).trans h
theorem Z5.grown {W W':World} {g:Nat} {o:Obj} {row:Option Nat} (h:Z5 W g o) (hg:W.grownBy W' row) (hn:some g≠row):Z5 W' g o:=(hg.block g h.lt hn).trans h
theorem Uq {X:World} {g b:Nat} (h:Z5 X g (.cells #[] 3)) (hb:b<=g):Zi X b [] (.slice (some ⟨g,0,none⟩) 0 0) :=
 ⟨⟨by simp,.inr ⟨g,0,#[],rfl,hb,h,QT _,by simp[maxLen],by simp,by simp⟩⟩,by simp⟩
def U0 (w w':World) (k:Nat):Prop:=w.heap.size<=k/\k<w'.heap.size
theorem Z5.cell {W:World} {g:Nat} {arr:Array Value} {T:TypeId} (h:Z5 W g (.cells arr T)):∀j,W.cell? ⟨g,j,none⟩=arr[j]?:=fun j=>cell_of_row W g j arr T (0,0) h
theorem Z5.free {W:World} {g:Nat} {arr:Array Value} {T:TypeId} (h:Z5 W g (.cells arr T)):∀j,W.frozen? ⟨g,j,none⟩=false:=fun j=>by unfold Z5 at h;simp[World.frozen?,h]
theorem Z5.set {W:World} {g i:Nat} {arr:Array Value} {T:TypeId} (h:Z5 W g (.cells arr T)) (v:Value):Z5 (W.setCell ⟨g,i,none⟩ v) g (.cells (arr.setIfInBounds i v) T):=heap_setCell_same W g i arr T v h
theorem Z5.far {W:World} {g g' i:Nat} {o:Obj} (h:Z5 W g o) (v:Value) (aa:g≠g'):Z5 (W.setCell ⟨g',i,none⟩ v) g o:=(Below.heap_setCell W ⟨g',i,none⟩ v g aa).trans h
theorem Z5.belowB {W W':World} {g B:Nat} {o:Obj} (h:Z5 W g o) (hb:Below B W W') (hg:g<B):Z5 W' g o:=(hb.block g hg).trans h
theorem Z5.row {W:World} {g:Nat} {arr:Array Value} {T:TypeId} (h:Z5 W g (.cells arr T)) (cs:Array Value):Z5 (W.setRow g cs) g (.cells cs T):=setRow_heap W g arr cs T (0,0) h
theorem YV {B:Nat} {w W:World} (h:Below B w W) {g:Nat} (hg:B<=g) (cs:Array Value):Below B w (W.setRow g cs):=⟨h.os,h.tape,h.output,by rw[size_setRow];exact h.size,fun k hk=>by rw[setRow_other _ _ _ _ (by omega)];exact h.block k hk⟩
theorem zO1 (op:ZB) (Ar An:Option Addr) (cr cn:Nat) (w:World) (hr:Z0 w (Lt w.heap.size) op.row (.slice Ar op.row.length cr)) (hn:Z8 Z7 w (Lt w.heap.size) op.nodes (.slice An op.nodes.length cn)) (aH:op.row.length<=1000000) (aK:ZT op.nodes<=1000000) :
  Calls Tryz.prog 85 #[.agg (Zu op (.slice Ar op.row.length cr) (.slice An op.nodes.length cn))] w fun e w'=>∃aT aM aU aN,e=.returned (.agg (Zu op (.slice aT op.row.length aM) (.slice aU op.nodes.length aN)))/\Z0 w' (U0 w w') op.row (.slice aT op.row.length aM)/\Z8 Z7 w' (U0 w w') op.nodes (.slice aU op.nodes.length aN)/\Below w.heap.size w w':=by
 obtain⟨W0,au⟩:∃W0,(w.alloc (.cells (Zu op (.slice Ar op.row.length cr) (.slice An op.nodes.length cn)) 49)).alloc (.cells #[.int .i64 0,.slice none 0 0,.int .i64 0,.int .i64 0,.slice none 0 0,.int .i64 0,.string ⟨#[]⟩,.string ⟨#[]⟩] 49)=W0:=⟨_,rfl⟩;have aG:W0.heap.size=w.heap.size+1+1:=by rw[<-au];simp
 have ak:Below w.heap.size w W0:=by rw[<-au];exact((QQ _ _).alloc (QT _) _).alloc (by simp) _
 have ae:Z5 W0 w.heap.size (.cells (Zu op (.slice Ar op.row.length cr) (.slice An op.nodes.length cn)) 49):=by rw[<-au];exact(Z5.at0 _ _).al _
 have aJ:Z5 W0 (w.heap.size+1) (.cells #[.int .i64 0,.slice none 0 0,.int .i64 0,.int .i64 0,.slice none 0 0,.int .i64 0,.string ⟨#[]⟩,.string ⟨#[]⟩] 49):=by rw[<-au];exact Z5.at1 _ _ _
 have CI:=hid (zEe op.row W0 _ (hr.below ak ak.size) aH);have CN:Hid (∀W,Below w.heap.size w W->Calls Tryz.prog 114 #[.slice An op.nodes.length cn] W (zMh W op.nodes)):=fun W hW=>zGe op.nodes _ W (hn.below hW hW.size) aK
 have aS:=hid ak;have ax:=hid aG;have aY:=hid ae;have aX:=hid aJ;have m1:W0.cell? ⟨w.heap.size,1,none⟩=some (.slice Ar op.row.length cr):=ae.cell 1;obtain⟨kind,row,at_,n,nodes,slot,old,text⟩:=op;simp only[Zu] at *;clear hr hn aH aK ak aG ae aJ;go_enter Tryz.func85,Tryz.ntmps85
 go_wp2_with fail
 refine CI.out.mono ?_;rintro e w1 ⟨v1,rfl,ae,aj⟩;obtain⟨A1,c1,rfl⟩:=(ae.ints (S:=fun _=>True) (fun _ _ _=>trivial)).form;have az:Z0 w1 (fun k=>W0.heap.size<=k/\k<w1.heap.size) row (.slice A1 row.length c1):=ae.ints (fun k h1 h2=>⟨h1,h2⟩);have HRI:=hid az;have aa:=aY.out.below aj;have ai:=aX.out.below aj;have bn:=hid (aS.out.trans (aj.mono aS.out.size));have m1:w1.cell? ⟨w.heap.size,1,none⟩=some (.slice Ar row.length cr):=aa.cell 1;have f1:w1.frozen? ⟨w.heap.size,1,none⟩=false:=aa.free 1;have af:=aa.set (i:=1) (.slice A1 row.length c1);have ah:=ai.far (g':=w.heap.size) (i:=1) (.slice A1 row.length c1) (by omega);have m4:(w1.setCell ⟨w.heap.size,1,none⟩ (.slice A1 row.length c1)).cell? ⟨w.heap.size,4,none⟩=some (.slice An nodes.length cn):=af.cell 4;have aW:=hid af;have aV:=hid ah;have aF:Hid (Below w.heap.size w (w1.setCell ⟨w.heap.size,1,none⟩ (.slice A1 row.length c1))):=bn.out.setCell (p:=⟨w.heap.size,1,none⟩) (QT _) _;have aD:Hid (Z0 (w1.setCell ⟨w.heap.size,1,none⟩ (.slice A1 row.length c1)) (fun k=>W0.heap.size<=k/\k<w1.heap.size) row (.slice A1 row.length c1)):=az.keep (fun q hq=>World.cell?_setCell_other _ _ _ _ (by intro e;have h9:=hq.1;rw[<-e] at h9;have:=ax.out;simp only at h9;omega)) (fun _ h=>h);have av:Hid ((w1.setCell ⟨w.heap.size,1,none⟩ (.slice A1 row.length c1)).heap.size=w1.heap.size):=by show _=_;simp[World.setCell]
 have aP:=hid aj.size;clear ae aj az aa ai af ah
 go_upto_region 2 with fail
 clear m1 f1;generalize (w1.setCell ⟨w.heap.size,1,none⟩ (.slice A1 row.length c1))=W2 at *
 go_wp2_with fail
 refine(CN.out W2 aF.out).mono ?_;rintro e w3 ⟨v3,rfl,aI,ag⟩;have ay:=aI.rows;obtain⟨A3,c3,rfl⟩:=ay.form;have aa:=aW.out.below ag;have ai:=aV.out.below ag;have bi:=hid (aF.out.trans (ag.mono aF.out.size));have m4:w3.cell? ⟨w.heap.size,4,none⟩=some (.slice An nodes.length cn):=aa.cell 4;have f4:w3.frozen? ⟨w.heap.size,4,none⟩=false:=aa.free 4;have af:=aa.set (i:=4) (.slice A3 nodes.length c3);have ah:=ai.far (g':=w.heap.size) (i:=4) (.slice A3 nodes.length c3) (by omega);have bg:Hid (Below w.heap.size w (w3.setCell ⟨w.heap.size,4,none⟩ (.slice A3 nodes.length c3))):=bi.out.setCell (p:=⟨w.heap.size,4,none⟩) (QT _) _;have aO:Hid ((w3.setCell ⟨w.heap.size,4,none⟩ (.slice A3 nodes.length c3)).heap.size=w3.heap.size):=by show _=_;simp[World.setCell]
 have aC:Hid (Z0 (w3.setCell ⟨w.heap.size,4,none⟩ (.slice A3 nodes.length c3)) (fun k=>W0.heap.size<=k/\k<w3.heap.size) row (.slice A1 row.length c1)):=aD.out.keep (fun q hq=>(World.cell?_setCell_other _ _ _ _ (by intro e;have h9:=hq.1;rw[<-e] at h9;have:=ax.out;simp only at h9;omega)).trans (ag.cell (by rw[av.out];exact hq.2))) (fun k hk=>⟨hk.1,by have:=ag.size;rw[av.out] at this;exact QV hk.2 this⟩);have aB:Hid (Z8 Z7 (w3.setCell ⟨w.heap.size,4,none⟩ (.slice A3 nodes.length c3)) (fun k=>W0.heap.size<=k/\k<w3.heap.size) nodes (.slice A3 nodes.length c3)):=ay.keep (fun q hq=>World.cell?_setCell_other _ _ _ _ (by intro e;have h9:=hq.1;rw[<-e] at h9;rw[av.out] at h9;have:=aP.out;have:=ax.out;simp only at h9;omega)) (fun k hk=>⟨by have h9:=hk.1;rw[av.out] at h9;have:=aP.out;omega,hk.2⟩);have aR:=hid af;have aQ:=hid ah;clear aI ag ay aa ai af ah
 go_upto_region 3 with fail
 clear m4 f4;generalize (w3.setCell ⟨w.heap.size,4,none⟩ (.slice A3 nodes.length c3))=W4 at *;have aA:=aR.out;simp only[List.setIfInBounds_toArray,List.set_cons_zero,List.set_cons_succ] at aA;have aZ:=hid aA;clear aA aR
 go_wp2_with (first
  |(refine wpList_load_row rfl 49 (.tmp 1) rfl w.heap.size rfl 49 _ (0,0) _ aZ.out Tryz.underlying49 rfl (by kernel_rfl) ?_)
  |(refine wpList_store_row rfl 49 (.tmp 2) (.tmp 11) rfl (w.heap.size+1) _ rfl rfl 49 _ aQ.out (by kernel_rfl) (by simp) (by simp[Value.oneCell']) ?_))
 refine bodyPost_ret (v:=.agg #[.int .i64 kind,.slice A1 row.length c1,.int .i64 at_,.int .i64 n,.slice A3 nodes.length c3,.int .i64 slot,.string old,.string text]) (results_cell_row Tryz.results85 _ _ (w.heap.size+1) 49 _ (0,0) _ rfl (setRow_heap _ _ _ _ _ _ aQ.out) Tryz.underlying49 rfl (by kernel_rfl)) rfl ?_;have HZZ:=ax.out;have aL:∀q:Addr,W0.heap.size<=q.block->(W4.setRow (w.heap.size+1) #[.int .i64 kind,.slice A1 row.length c1,.int .i64 at_,.int .i64 n,.slice A3 nodes.length c3,.int .i64 slot,.string old,.string text]).cell? q=W4.cell? q:=fun q hq=>World.cell?_of_block (setRow_other _ _ _ _ (by omega))
 exact⟨A1,c1,A3,c3,rfl,aC.out.keep (fun q hq=>aL q hq.1) (fun k hk=>⟨by have:=hk.1;omega,by rw[size_setRow,aO.out];exact hk.2⟩),aB.out.keep (fun q hq=>aL q hq.1) (fun k hk=>⟨by have:=hk.1;omega,by rw[size_setRow,aO.out];exact hk.2⟩),YV bg.out (by omega) _⟩
def zN:Value:=.agg #[.int .i64 0,.string ⟨#[]⟩,.int .i64 0,.slice none 0 0]
def Su (w:World) (e:Ending) (w':World):Prop:=∃v,e=.returned v/\w'.ownsRow w.heap.size 24 4 v 0 []/\Below w.heap.size w w'
theorem zQf (w:World) (n:Nat) (hn:n<=1000000000):Calls Tryz.prog 181 #[.slice none 0 0,.int .i64 n] w (Su w):=by
 obtain⟨i0,aj,ai,hz1,ah⟩:=info_parts TD;rcases Nat.eq_zero_or_pos n with h0|h0
 ·subst h0;go_enter Tryz.func181,Tryz.ntmps181
  go_wp2
  go_ret;exact⟨_,rfl,⟨by simp,.inl ⟨rfl,rfl⟩⟩,QQ _ _⟩
 have af:∀ty,(Builtin.append_ #[22,3] ty #[.slice none 0 0,.int .i64 (n:Int)]).run Tryz.prog w =
   .ok (.slice (some ⟨w.heap.size,0,none⟩) n (grownCap w n 0 24)) (w.drew.alloc (.cells (Builtin.zeroCells zN.cells n++Builtin.zeroCells zN.cells (grownCap w n 0 24-n)) 24)):=fun ty=>by
  have h:=Lib.run_append_grow_zeros (P:=Tryz.prog) w 22 3 ty 24 i0 zN .i64 .i64 Tryz.underlying22 Tryz.underlying3 aj ai none 0 0 []
   (run_firstCells_none w.drew i0.size 0 0 0) n h0 (by omega) (by omega) (by omega) (by rw[ah];omega)
   (by rw[ah];exact growslice_fits (by omega) (by omega))
  simpa using h
 have ak:n<=grownCap w n 0 24:=grownCap_ge w _ _ _;have ag:=grownCap_le_maxLen w n 0 24 (by unfold maxLen;omega);have aa:Below w.heap.size w (w.drew.alloc (.cells (Builtin.zeroCells zN.cells n++Builtin.zeroCells zN.cells (grownCap w n 0 24-n)) 24)):=(QQ _ _).drew.alloc (QT _) _;have ae:(w.drew.alloc (.cells (Builtin.zeroCells zN.cells n++Builtin.zeroCells zN.cells (grownCap w n 0 24-n)) 24)).ownsRow w.heap.size 24 4 (.slice (some ⟨w.heap.size,0,none⟩) 0 (grownCap w n 0 24)) 0 [] :=
  World.ownsRow_made w.drew _ _ (QT _) ag (by rw[Array.size_append,size_zeroCells,size_zeroCells];simp[Value.cells,zN];omega)
 obtain⟨G,hG⟩:∃G,G=grownCap w n 0 24:=⟨_,rfl⟩;rw[<-hG] at af ak ag aa ae;unfold maxLen at ag;obtain⟨W,hW⟩:∃W,W=(w.drew.alloc (.cells (Builtin.zeroCells zN.cells n++Builtin.zeroCells zN.cells (G-n)) 24)):=⟨_,rfl⟩;rw[<-hW] at af aa ae;have HO:=hid ae;have HB:=hid aa;clear ae aa hG hW;go_enter Tryz.func181,Tryz.ntmps181
 go_wp2_with (at_builtin;refine Lib.wpList_append_run _ rfl _ _ _ _ rfl _ _ rfl rfl _ _ (af _) ?_)
 go_ret;exact⟨_,rfl,HO.out,HB.out⟩
theorem zNt {w:World} {S:Nat->Prop} {xss:List (List Z9)} {A:Option Addr} {cs:List Value} (h3:Zl w S A cs) (h4:ZK (Xv Z7) w S xss cs) {k:Nat} (hk:k<xss.length) :
  ∃g o A' cap',A=some ⟨g,o,none⟩/\S g/\w.cell? ⟨g,o+k,none⟩=some (.slice A' xss[k].length cap')/\Z8 Z7 w S xss[k] (.slice A' xss[k].length cap'):=by
 obtain⟨g,o,c,e,hb,⟨v,rfl,A',cap',rs,rfl,h⟩,hc⟩:=Sl h3 h4 hk;exact⟨g,o,A',cap',e,hb,by simpa[Xv] using hc 0 _ rfl,A',cap',rs,rfl,h⟩
def Xj (xss:List (List Z9)):Nat:=xss.flatten.length
theorem zHj (xss:List (List Z9)) (k:Nat):Xj (xss.take k)<=Xj xss:=by
 unfold Xj
 conv=>rhs;rw[<-List.take_append_drop k xss]
 rw[List.flatten_append,List.length_append];omega
theorem zGr (xss:List (List Z9)) {k:Nat} (hk:k<xss.length):(xss.take (k+1)).flatten=(xss.take k).flatten++xss[k]:=by
 rw[List.take_succ_eq_append_getElem hk,List.flatten_append,List.flatten_cons,List.flatten_nil,List.append_nil]
theorem zNd (xss:List (List Z9)) (w:World) (v:Value) (S:Nat->Prop) (hS:∀q,S q->q<w.heap.size) (hv:Z8 (Xv Z7) w S xss v) (ai:xss.flatten.length<=1000000) :
  Calls Tryz.prog 177 #[v] w (XN S w xss.flatten):=by
 obtain⟨A,cap,rs,rfl,aI,ak,ax,ay⟩:=hv;unfold maxLen at ak;have hl1:xss.length<=9223372036854775807:=by omega
 have HS:=hid hS;have H:Hid (∀W,Below w.heap.size w W->Zl W S A rs/\ZK (Xv Z7) W S xss rs):=fun W hW=>⟨ax.keep (fun q hq=>hW.cell (hS _ hq)) (fun _ h=>h),ay.keep (fun q hq=>hW.cell (hS _ hq)) (fun _ h=>h)⟩
 clear ax ay hS;have aF:Xj xss<=1000000:=ai;clear ai;go_enter Tryz.func177,Tryz.ntmps177
 go_wp2
 go_loop [3,11] (fun s i=>∃k:Nat,k<=xss.length/\i=.int .i64 k/\s=.int .i64 (Xj (xss.take k))) (fun _ i=>xss.length-(intOf i).toNat)
 case atStart=>exact⟨0,QU _,rfl,rfl⟩
 obtain⟨k,hk,rfl,rfl⟩:=hrel;have aH:=zHj xss k;by_cases ag:k<xss.length
 ·obtain⟨g,o,A',cap',rfl,hg,c0,_⟩:=zNt (H.out w (QQ _ _)).1 (H.out w (QQ _ _)).2 ag
  replace hg:=HS.out _ hg
  have aG:=zHj xss (k+1);have HF:Hid (Xj (xss.take (k+1))=Xj (xss.take k)+xss[k].length):=by show _=_;unfold Xj;rw[zGr xss ag,List.length_append]
  have aA:Xj (xss.take k)+xss[k].length<=1000000:=by rw[<-HF.out];omega
  have aD:decide ((Xj (xss.take k):Int)+(xss[k].length:Int)<0)=false:=by simp;omega
  go_wp2
  go_round
  case rel=>exact⟨k+1,by omega,by go_num,by rw[HF.out];go_num⟩
  case measure=>simp[intOf];omega
 have az:Xj (xss.take k)=Xj xss:=by rw[List.take_of_length_le (by omega)]
 rw[az];clear az
 go_wp2_with fail
 refine(zQf w (Xj xss) (by omega)).mono ?_;rintro e w1 ⟨v1,rfl,af,au⟩;have HO:Hid (ZH w1 w.heap.size S [] v1/\Below w.heap.size w w1):=⟨⟨[],af,rfl⟩,au⟩;have aj:=au.size;clear af au
 go_wp2_with fail
 go_loopw [6,27] (fun s i wr=>Below w.heap.size w1 wr/\∃k:Nat,k<=xss.length/\i=.int .i64 k/\ZH wr w.heap.size S (xss.take k).flatten s) (fun _ i _=>xss.length-(intOf i).toNat)
 case atStart=>exact⟨QQ _ _,0,QU _,rfl,by simpa using HO.out.1⟩
 obtain⟨ah,k,hk,rfl,aa⟩:=hrel;have aH:=zHj xss k;by_cases ag:k<xss.length
 ·obtain⟨g,o,A',cap',rfl,hg,c0,hr⟩:=zNt (H.out wr (HO.out.2.trans ah)).1 (H.out wr (HO.out.2.trans ah)).2 ag
  replace hg:=HS.out _ hg
  have aG:=zHj xss (k+1);have HF:Hid (Xj (xss.take (k+1))=Xj (xss.take k)+xss[k].length):=by show _=_;unfold Xj;rw[zGr xss ag,List.length_append]
  have aA:Xj (xss.take k)+xss[k].length<=1000000:=by rw[<-HF.out];omega
  have aC:w.heap.size<=wr.heap.size:=QP aj ah.size;have aJ:=hid hr;have av:=hid aa;clear hr aa aF
  go_wp2_with (at_builtin;refine Wx rfl (.tmp 31) (.tmp 32) rfl w.heap.size S HS.out _ (xss.take k).flatten xss[k] rfl av.out _ _ _ rfl aJ.out (by unfold Xj at aA;omega) aC ?_;intro v2 w2 ae aB)
  have aL:=hid aB;have aK:=hid ae;clear aB ae;go_roundw
  case rel=>exact⟨ah.trans aL.out,k+1,by omega,by go_num,by rw[zGr xss ag];exact aK.out⟩
  case measure=>simp[intOf];omega
 have he:xss.take k=xss:=List.take_of_length_le (by omega);rw[he] at aa;have av:=hid aa;have HB:=hid ah;clear he aa ah
 go_wp2_with fail
 go_ret;exact⟨_,rfl,av.out.rowsN,HO.out.2.trans HB.out⟩
theorem zO4 (xs:List Z9) (w:World) (v:Value) (S:Nat->Prop) (hS:∀q,S q->q<w.heap.size) (hv:Z8 Z7 w S xs v) (ai:xs.length<=1000000) :
  Calls Tryz.prog 174 #[v] w (XN S w xs):=by
 have HV:=hid hv;obtain⟨A,cap,rs,rfl,aj,af,aa,ah⟩:=hv;unfold maxLen at af;have hl1:xs.length<=9223372036854775807:=by omega
 have HL:Hid (rs.length=xs.length*4):=ah.len;have HS:=hid hS;clear ah hS;rcases A with _|ad
 ·have h0:xs.length=0:=by
   rcases Nat.eq_zero_or_pos xs.length with h0|h0
   ·exact h0
   obtain⟨ad,h⟩:=aa.some_ (by rw[HL.out];omega);cases h
  have hx:xs=[]:=List.eq_nil_of_length_eq_zero h0;subst hx;clear aa HL HV;have hn:=fun w=>Lib.run_eql_slice_nil (P:=Tryz.prog) w
  go_enter Tryz.func174,Tryz.ntmps174
  go_wp2
  go_ret;exact⟨_,rfl,Z8.nil_ 0 (QU _) none,QQ _ _⟩
 have ag:Below w.heap.size w (w.alloc (.cells #[] 24)):=ZX _ _;have au:Hid (Z8 Z7 (w.alloc (.cells #[] 24)) S xs (.slice (some ad) xs.length cap)):=HV.out.keep (fun q hq=>ag.cell (HS.out _ hq)) (fun _ h=>h);have HB:=hid ag;have hn:=fun w=>Lib.run_eql_slice_nil (P:=Tryz.prog) w
 clear aa HL HV ag;go_enter Tryz.func174,Tryz.ntmps174
 go_wp2_with (at_builtin;refine Wx rfl (.tmp 5) (.tmp 6) rfl w.heap.size S HS.out _ [] xs rfl (ZH.empty w S) _ _ _ rfl au.out (by simp;omega) (by simp) ?_;intro v' w' ae ak)
 go_ret;exact⟨_,rfl,ZH.rowsN (ts:=xs) ae,HB.out.trans ak⟩
section
variable {ops:Array Oper} {Q:Exit->Act->World->Prop} {md:Region.Mode} {S:World->Prop}
theorem yifr {o:Oper} {a:Act} (ty:TypeId) (x:Operand) (ho:o.op=.load ty x) (hw:Region.wanted o (yielded ops a.tmps)=true) {g:Nat} (hx:a.eval x=.pointer (some ⟨g,0,none⟩)) {t:TypeId} {cs:Array Value} (hg:∀w,S w->Z5 w g (.cells cs t)) {fs} (hu:Tryz.prog.underlying ty=some (.struct fs)) (hi:(Tryz.prog.info? ty).map (·.size)=some cs.size):YieldsIf Tryz.prog ops S o (.agg cs) a :=
 Or.inl ⟨hw,fun w hS=>by
  unfold execOp;simp only[ho,hx,Instr.loadAt,Instr.sureAddr,Sem.run_bind,Sem.run_pure,Result.andThen_ok,run_loadVar_row w g t ty cs (0,0) (.struct fs) (hg w hS) hu rfl hi]⟩
theorem tk (i d:Nat) {o1:Op} {o2:TypeId} {o3:String} {o4:Array Edge} {o5:Option (Nat×Bool)} {v:Value} {fuel:Nat} {listed l':Array Bool} {a a':Act} {w:World}
  (hi:ops[i]?=some ⟨some d,o1,o2,o3,o4,o5⟩) (h:wpAnyH Tryz.prog md ops (NoPanic Q) S fuel l' a' w)
  (hS:S w:=by assumption) (hs:Region.noSelect ops=true:=by kernel_rfl) (hf:Region.free md ops listed i=true:=by kernel_rfl) (hr:(Region.ready md ops listed).contains i=true:=by kernel_rfl)
  (hy:YieldsIf Tryz.prog ops S ⟨some d,o1,o2,o3,o4,o5⟩ v a:=by exact Or.inl ⟨by rfl,fun W hS=>by clear hS;go_simp;try with_reducible rfl⟩)
  (hl:listed.setIfInBounds i true=l':=by first|(simp only[qS,qZ,qC];rfl)|rfl) (ha:a.put (some d) v=a':=by simp only[qP,qN,qS,qZ,qC];rfl) :
  wpAnyH Tryz.prog md ops (NoPanic Q) S (fuel+1) listed a w:=by
 subst hl ha;exact wpAnyH_take hi hs hf hr (fun _ _ _ h=>h) hy hS h
theorem tr (i d:Nat) (ty:TypeId) (x:Tmp) {fs} {g:Nat} {t:TypeId} {cs:Array Value} {o2:TypeId} {o3:String} {o4:Array Edge} {o5:Option (Nat×Bool)} {fuel:Nat} {listed l':Array Bool} {a a':Act} {w:World}
  (hi:ops[i]?=some ⟨some d,.load ty (.tmp x),o2,o3,o4,o5⟩) (hg:∀w,S w->Z5 w g (.cells cs t)) (hu:Tryz.prog.underlying ty=some (.struct fs)) (h:wpAnyH Tryz.prog md ops (NoPanic Q) S fuel l' a' w)
  (hS:S w:=by assumption) (hs:Region.noSelect ops=true:=by kernel_rfl) (hf:Region.free md ops listed i=true:=by kernel_rfl) (hr:(Region.ready md ops listed).contains i=true:=by kernel_rfl)
  (hw:Region.wanted ⟨some d,.load ty (.tmp x),o2,o3,o4,o5⟩ (yielded ops a.tmps)=true:=by rfl) (hx:a.eval (.tmp x)=.pointer (some ⟨g,0,none⟩):=by rfl) (hz:(Tryz.prog.info? ty).map (·.size)=some cs.size:=by kernel_rfl)
  (hl:listed.setIfInBounds i true=l':=by first|(simp only[qS,qZ,qC];rfl)|rfl) (ha:a.put (some d) (.agg cs)=a':=by simp only[qP,qN,qS,qZ,qC];rfl) :
  wpAnyH Tryz.prog md ops (NoPanic Q) S (fuel+1) listed a w:=by
 subst hl ha;exact wpAnyH_take hi hs hf hr (fun _ _ _ h=>h) (yifr ty (.tmp x) rfl hw hx hg hu hz) hS h
theorem r1 (i:Nat) (d:Option Tmp) {o1:Op} {o2:TypeId} {o3:String} {o4:Array Edge} {o5:Option (Nat×Bool)} {fuel:Nat} {listed l':Array Bool} {a a':Act} {w:World} (hi:ops[i]?=some ⟨d,o1,o2,o3,o4,o5⟩)
  (h:∀K':Act->World->Prop,Shut (∀a w,S w->(S w->wpAnyH Tryz.prog md ops (NoPanic Q) S fuel (l'.setIfInBounds i true) a w)->K' a w)->if Region.wanted ⟨d,o1,o2,o3,o4,o5⟩ (yielded ops a'.tmps)=true then Oper.wp Tryz.prog ⟨d,o1,o2,o3,o4,o5⟩ a' w K' (NoPanic Q) else K' (a'.put d undef) w)
  (hr:Region.ready md ops listed=[i]:=by kernel_rfl)
  (hl:listed=l':=by first|(simp only[qS,qZ,qC];rfl)|rfl) (ha:a=a':=by first|(simp only[qP,qN,qS,qZ,qC];rfl)|rfl):wpAnyH Tryz.prog md ops (NoPanic Q) S (fuel+1) listed a w:=by
 subst hl ha;exact wpAnyH_ready hr (by simp) (AllReadyH.cons hi h AllReadyH.nil)
theorem rn (rs:List Nat) {fuel:Nat} {listed l':Array Bool} {a a':Act} {w:World} (h:AllReadyH Tryz.prog md ops (NoPanic Q) S fuel l' a' w rs) (hr:Region.ready md ops listed=rs:=by kernel_rfl) (hn:rs≠[]:=by simp)
  (hl:listed=l':=by first|(simp only[qS,qZ,qC];rfl)|rfl) (ha:a=a':=by first|(simp only[qP,qN,qS,qZ,qC];rfl)|rfl):wpAnyH Tryz.prog md ops (NoPanic Q) S (fuel+1) listed a w:=by
 subst hl ha;exact wpAnyH_ready hr hn h
theorem rc (d:Option Tmp) {o1:Op} {o2:TypeId} {o3:String} {o4:Array Edge} {o5:Option (Nat×Bool)} {fuel:Nat} {listed:Array Bool} {a:Act} {w:World} {i:Nat} {rs:List Nat} (hi:ops[i]?=some ⟨d,o1,o2,o3,o4,o5⟩)
 (h:∀K':Act->World->Prop,Shut (∀a w,S w->(S w->wpAnyH Tryz.prog md ops (NoPanic Q) S fuel (listed.setIfInBounds i true) a w)->K' a w)->if Region.wanted ⟨d,o1,o2,o3,o4,o5⟩ (yielded ops a.tmps)=true then Oper.wp Tryz.prog ⟨d,o1,o2,o3,o4,o5⟩ a w K' (NoPanic Q) else K' (a.put d undef) w)
 (hs:AllReadyH Tryz.prog md ops (NoPanic Q) S fuel listed a w rs):AllReadyH Tryz.prog md ops (NoPanic Q) S fuel listed a w (i::rs):=AllReadyH.cons hi h hs
end
theorem sR (ty:TypeId) (x y:Tmp) {g:Nat} {t:TypeId} {old cells:Array Value} {ops:Array Oper} {rest:List Oper} {o:Oper} {a:Act} {w:World} {Q:Exit->Act->World->Prop} (hg:Z5 w g (.cells old t)) (h:wpList Tryz.prog ops Q rest (a.put o.dst undef) (w.setRow g cells))
  (ae:o.guard=none:=by rfl) (ho:o.op=.store ty (.tmp x) (.tmp y):=by rfl) (hx:a.eval (.tmp x)=.pointer (some ⟨g,0,none⟩):=by rfl) (hy:a.eval (.tmp y)=.agg cells:=by rfl)
  (hi:(Tryz.prog.info? ty).map (·.size)=some cells.size:=by kernel_rfl) (aa:old.size=cells.size:=by simp) (h1:cells.all (·.oneCell')=true:=by simp[Value.oneCell']):wpList Tryz.prog ops Q (o::rest) a w :=
 wpList_store_row ae ty (.tmp x) (.tmp y) ho g cells hx hy t old hg hi aa h1 h
theorem lR (ty:TypeId) (x:Tmp) {fs} {g:Nat} {t:TypeId} {cs:Array Value} {ops:Array Oper} {rest:List Oper} {o:Oper} {a:Act} {w:World} {Q:Exit->Act->World->Prop} (hg:Z5 w g (.cells cs t)) (hu:Tryz.prog.underlying ty=some (.struct fs)) (h:wpList Tryz.prog ops Q rest (a.put o.dst (.agg cs)) w)
  (aa:o.guard=none:=by rfl) (ho:o.op=.load ty (.tmp x):=by rfl) (hx:a.eval (.tmp x)=.pointer (some ⟨g,0,none⟩):=by rfl)
  (hi:(Tryz.prog.info? ty).map (·.size)=some cs.size:=by kernel_rfl):wpList Tryz.prog ops Q (o::rest) a w :=
 wpList_load_row aa ty (.tmp x) ho g hx t cs (0,0) (.struct fs) hg hu rfl hi h
theorem Yr {fn:Func} {p u:Tmp} {ty:TypeId} (hf:fn.results=#[.cell p ty,.tmp u]) {fs} (hu:Tryz.prog.underlying ty=some (.struct fs)) (x:Value) {R:Ending->World->Prop} {a:Act} {w:World} {g:Nat} {t:TypeId} {cs:Array Value} (hg:Z5 w g (.cells cs t)) (hR:R (.returned (.tuple #[.agg cs,x])) w)
  (hp:a.tmps.getD p undef=.pointer (some ⟨g,0,none⟩):=by rfl) (hx:a.tmps.getD u undef=x:=by rfl) (hd:a.defers=[]:=by rfl) (hi:(Tryz.prog.info? ty).map (·.size)=some cs.size:=by kernel_rfl):bodyPost Tryz.prog fn R .ret a w :=
 bodyPost_ret (v:=.tuple #[.agg cs,x]) (by rw[results_cell_tmp hf,hp,hx];simp[asAddr,run_loadVar_row w g t ty cs (0,0) (.struct fs) hg hu rfl hi,Result.andThen]) hd hR
theorem zOw (k s:Int) (items:List Z9) (x:ByteArray) (f:Bool) (An:Option Addr) (cn:Nat) (w:World) (hn:Z8 Z7 w (Lt w.heap.size) items (.slice An items.length cn)) (hx:x.size<=maxLen) :
  Calls Tryz.prog 20 #[.agg #[.int .i64 k,.slice An items.length cn,.int .i64 s,.string x,.bool f]] w fun e w'=>e=.returned (.bool (Yb (Z6 items) 100&&decide ((x.size:Int)<=300)))/\Below w.heap.size w w':=by
 obtain⟨W0,af⟩:∃W0,w.alloc (.cells #[.int .i64 k,.slice An items.length cn,.int .i64 s,.string x,.bool f] 30)=W0:=⟨_,rfl⟩;have aa:Below w.heap.size w W0:=by rw[<-af];exact ZX _ _
 have ho:Z5 W0 w.heap.size (.cells #[.int .i64 k,.slice An items.length cn,.int .i64 s,.string x,.bool f] 30):=by rw[<-af];exact Z5.at0 _ _
 have CF:Hid (∀W,Below W0.heap.size W0 W->Calls Tryz.prog 19 #[.agg #[.int .i64 1,.string ⟨#[]⟩,.int .i64 0,.slice An items.length cn],.int .i64 100] W fun e w'=>e=.returned (.bool (Yb (Z6 items) 100))/\Below W.heap.size W w'):=fun W hW=>zQi (Z6 items) W _ 100 ((hn.below aa aa.size).below hW hW.size) (by omega) (by omega)
 have HO:=hid ho;have av:=hid aa;have m1:=ho.cell 1;simp only[List.getElem?_toArray,List.getElem?_cons_zero,List.getElem?_cons_succ] at m1;obtain⟨bf,ai⟩:∃bf,Yb (Z6 items) 100=bf:=⟨_,rfl⟩;rw[ai] at CF ⊢;obtain⟨bx,ak⟩:∃bx,decide ((x.size:Int)<=300)=bx:=⟨_,rfl⟩;clear hn aa ho ai;go_enter Tryz.func20,Tryz.ntmps20
 go_wp2_with fail
 refine(zPg _ _ _ _).mono ?_;rintro e w1 ⟨rfl,aj⟩;have ag:=hid aj;clear aj m1 af
 go_wp2_with fail
 refine(CF.out _ ag.out).mono ?_;rintro e w2 ⟨rfl,ae⟩;have ah:=(HO.out.below ag.out).below ae;have au:=hid (Zx (Zx av.out ag.out) ae);have m3:=ah.cell 3;simp only[List.getElem?_toArray,List.getElem?_cons_zero,List.getElem?_cons_succ] at m3;clear ae ah;cases bf
 all_goals
  go_wp2_with fail
  go_ret;exact⟨by simp[ak],au.out⟩
def TA (t:Z9) (p m:List Int) (items:List Z9) (x:ByteArray):Bool:=Yb t 300&&(decide ((p.length:Int)<=60)&&(decide ((m.length:Int)<=60)&&(Yb (Z6 items) 100&&decide ((x.size:Int)<=300))))
theorem zQj (t:Z9) (p m:List Int) (k s:Int) (items:List Z9) (x:ByteArray) (f:Bool) (A Ap Am An:Option Addr) (cap cp cm cn:Nat) (w:World) (hv:Z8 Z7 w (Lt w.heap.size) t.kids (.slice A t.kids.length cap)) (hn:Z8 Z7 w (Lt w.heap.size) items (.slice An items.length cn)) (hx:x.size<=maxLen) :
  Calls Tryz.prog 7 #[.agg #[.int .i64 t.kind,.string t.text,.int .i64 t.cols,.slice A t.kids.length cap],.agg #[.slice Ap p.length cp,.slice Am m.length cm],.agg #[.int .i64 k,.slice An items.length cn,.int .i64 s,.string x,.bool f]] w fun e w'=>e=.returned (.bool (TA t p m items x))/\Below w.heap.size w w':=by
 obtain⟨W0,ag⟩:∃W0,((w.alloc (.cells #[.int .i64 t.kind,.string t.text,.int .i64 t.cols,.slice A t.kids.length cap] 24)).alloc (.cells #[.slice Ap p.length cp,.slice Am m.length cm] 27)).alloc (.cells #[.int .i64 k,.slice An items.length cn,.int .i64 s,.string x,.bool f] 30)=W0:=⟨_,rfl⟩;have aa:Below w.heap.size w W0:=by rw[<-ag];exact Zq (Zq (ZX _ _) _) _
 have ae:Z5 W0 w.heap.size (.cells #[.int .i64 t.kind,.string t.text,.int .i64 t.cols,.slice A t.kids.length cap] 24):=by rw[<-ag];exact((Z5.at0 _ _).al _).al _
 have ak:Z5 W0 (w.heap.size+1) (.cells #[.slice Ap p.length cp,.slice Am m.length cm] 27):=by rw[<-ag];exact(Z5.at1 _ _ _).al _
 have aj:Z5 W0 (w.heap.size+1+1) (.cells #[.int .i64 k,.slice An items.length cn,.int .i64 s,.string x,.bool f] 30):=by rw[<-ag];exact Z5.at2 _ _ _ _
 have CF:Hid (Calls Tryz.prog 19 #[.agg #[.int .i64 t.kind,.string t.text,.int .i64 t.cols,.slice A t.kids.length cap],.int .i64 300] W0 fun e w'=>e=.returned (.bool (Yb t 300))/\Below W0.heap.size W0 w'):=zQi t W0 _ 300 (hv.below aa aa.size) (by omega) (by omega);have CR:Hid (∀W,Below W0.heap.size W0 W->Calls Tryz.prog 20 #[.agg #[.int .i64 k,.slice An items.length cn,.int .i64 s,.string x,.bool f]] W fun e w'=>e=.returned (.bool (Yb (Z6 items) 100&&decide ((x.size:Int)<=300)))/\Below W.heap.size W w'):=fun W hW=>zOw k s items x f An cn W ((hn.below aa aa.size).below hW hW.size) hx
 have aD:=hid aa;have m0:=ae.cell 0;have m1:=ae.cell 1;have m2:=ae.cell 2;have m3:=ae.cell 3;simp only[List.getElem?_toArray,List.getElem?_cons_zero,List.getElem?_cons_succ] at m0 m1 m2 m3;have aB:=hid ak;have aA:=hid aj;unfold TA;obtain⟨bf,av⟩:∃bf,Yb t 300=bf:=⟨_,rfl⟩;rw[av] at CF ⊢;obtain⟨br,au⟩:∃br,(Yb (Z6 items) 100&&decide ((x.size:Int)<=300))=br:=⟨_,rfl⟩;rw[au] at CR ⊢;obtain⟨b1,ai⟩:∃b1,decide ((p.length:Int)<=60)=b1:=⟨_,rfl⟩;obtain⟨b2,ay⟩:∃b2,decide ((m.length:Int)<=60)=b2:=⟨_,rfl⟩;clear hv hn aa ae ak aj av au;go_enter Tryz.func7,Tryz.ntmps7
 go_wp2_with fail
 refine CF.out.mono ?_;rintro e w1 ⟨rfl,af⟩;have ah:=hid (Zx aD.out af);have az:=hid af;have h2:=aB.out.below af;have h3:=aA.out.below af;have n0:=h2.cell 0;have n1:=h2.cell 1;have c0:=h3.cell 0;have c1:=h3.cell 1;have c2:=h3.cell 2;have c3:=h3.cell 3;have c4:=h3.cell 4;simp only[List.getElem?_toArray,List.getElem?_cons_zero,List.getElem?_cons_succ] at n0 n1 c0 c1 c2 c3 c4;clear af h2 h3 m0 m1 m2 m3 ag CF;cases bf
 case false =>
  go_wp2_with fail
  go_ret;exact⟨by simp,ah.out⟩
 cases b1
 case false =>
  go_wp2_with fail
  go_ret;exact⟨by simp[ai],ah.out⟩
 cases b2
 case false =>
  go_wp2_with fail
  go_ret;exact⟨by simp[ai,ay],ah.out⟩
 go_wp2_with fail
 refine(CR.out _ az.out).mono ?_;rintro e w2 ⟨rfl,ax⟩;have aC:=hid (Zx ah.out ax);clear ax n0 n1 c0 c1 c2 c3 c4
 go_wp2_with fail
 go_ret;exact⟨by simp[ai,ay],aC.out⟩
