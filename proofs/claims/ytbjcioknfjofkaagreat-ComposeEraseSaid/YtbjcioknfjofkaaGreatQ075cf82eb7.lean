/- Texts put together. -/
import Derived.Test.YtbjcioknfjofkaaGreatQ2a6bd4da00
import Derived.Test.YtbjcioknfjofkaaGreatQ15642f0ed8
import Derived.Test.YtbjcioknfjofkaaGreatQ1203fa1d6d
import Derived.Test.YtbjcioknfjofkaaGreatQ6da73ac3b1
import Derived.Test.YtbjcioknfjofkaaGreatQ0a2d1212ff
import Derived.Test.YtbjcioknfjofkaaGreatQ5f8487fc8c
import Derived.Test.YtbjcioknfjofkaaGreatQbd13932ac5
import Derived.Test.YtbjcioknfjofkaaGreatQ87d3108caf
set_option linter.unusedVariables false
set_option linter.unusedSimpArgs false
set_option maxRecDepth 100000
namespace Go.Proofs.YtbjcioknfjofkaaGreat
open Go.RowKit
theorem bAl {W X:World} (h:Below W.heap.size W X) (o:Obj):Below W.heap.size W (X.alloc o):=h.alloc h.size o
theorem heapNew (W:World) (o:Obj) (b:Nat) (hb:b = W.heap.size):(W.alloc o).heap[b]? = some o:=by subst hb;exact heap_alloc_new W o
def zAc (W:World) (g:Nat) (o:Obj):Prop:=W.heap[g]? = some o
theorem zAc.lt {W:World} {g:Nat} {o:Obj} (h:zAc W g o):g < W.heap.size:=(Array.getElem?_eq_some_iff.1 h).1
theorem zAc.new (W:World) (o:Obj) (g:Nat) (hg:g = W.heap.size):zAc (W.alloc o) g o:=heapNew W o g hg
theorem zAc.al {W:World} {g:Nat} {o:Obj} (o':Obj) (h:zAc W g o):zAc (W.alloc o') g o:=(Below.heap_alloc _ _ _ h.lt).trans h
theorem zAc.dr {W:World} {g:Nat} {o:Obj} (h:zAc W g o):zAc W.drew g o:=h
theorem zAc.at0 (W:World) (o:Obj):zAc (W.alloc o) W.heap.size o:=zAc.new W o _ rfl
theorem zAc.at1 (W:World) (p o:Obj):zAc ((W.alloc p).alloc o) (W.heap.size + 1) o:=zAc.new _ o _ (by simp)
theorem zAc.at2 (W:World) (p p' o:Obj):zAc (((W.alloc p).alloc p').alloc o) (W.heap.size + 1 + 1) o:=zAc.new _ o _ (by simp)
theorem zAc.below {W W':World} {g:Nat} {o:Obj} (h:zAc W g o) (hb:Below W.heap.size W W'):zAc W' g o:=(hb.block g h.lt).trans h
theorem zAc.grown {W W':World} {g:Nat} {o:Obj} {row:Option Nat} (h:zAc W g o) (hg:W.grownBy W' row) (hn:some g≠row):zAc W' g o:=(hg.block g h.lt hn).trans h
theorem own_emp {X:World} {g b:Nat} (h:zAc X g (.cells #[] 3)) (hb:b≤g):Owns X b [] (.slice (some ⟨g,0,none⟩) 0 0) :=
 ⟨⟨by simp,.inr ⟨g,0,#[],rfl,hb,h,Nat.le_refl _,by simp [maxLen],by simp,by simp⟩⟩,by simp⟩
def New (w w':World) (k:Nat):Prop:=w.heap.size≤k∧k < w'.heap.size
theorem zAc.cell {W:World} {g:Nat} {arr:Array Value} {T:TypeId} (h:zAc W g (.cells arr T)):∀ j,W.cell? ⟨g,j,none⟩ = arr[j]?:=fun j=>cell_of_row W g j arr T (0,0) h
theorem zAc.free {W:World} {g:Nat} {arr:Array Value} {T:TypeId} (h:zAc W g (.cells arr T)):∀ j,W.frozen? ⟨g,j,none⟩ = false:=fun j=>by unfold zAc at h;simp [World.frozen?,h]
theorem zAc.set {W:World} {g i:Nat} {arr:Array Value} {T:TypeId} (h:zAc W g (.cells arr T)) (v:Value):zAc (W.setCell ⟨g,i,none⟩ v) g (.cells (arr.setIfInBounds i v) T):=heap_setCell_same W g i arr T v h
theorem zAc.far {W:World} {g g' i:Nat} {o:Obj} (h:zAc W g o) (v:Value) (hne:g≠g'):zAc (W.setCell ⟨g',i,none⟩ v) g o:=(Below.heap_setCell W ⟨g',i,none⟩ v g hne).trans h
theorem zAc.belowB {W W':World} {g B:Nat} {o:Obj} (h:zAc W g o) (hb:Below B W W') (hg:g < B):zAc W' g o:=(hb.block g hg).trans h
theorem zAc.row {W:World} {g:Nat} {arr:Array Value} {T:TypeId} (h:zAc W g (.cells arr T)) (cs:Array Value):zAc (W.setRow g cs) g (.cells cs T):=setRow_heap W g arr cs T (0,0) h
theorem zAk {B:Nat} {w W:World} (h:Below B w W) {g:Nat} (hg:B≤g) (cs:Array Value):Below B w (W.setRow g cs):=⟨h.os,h.tape,h.output,by rw [size_setRow];exact h.size,fun k hk=>by rw [setRow_other _ _ _ _ (by omega)];exact h.block k hk⟩
set_option maxHeartbeats 1000000 in
theorem zO1 (op:OpD) (Ar An:Option Addr) (cr cn:Nat) (w:World) (hr:zAh w (Lt w.heap.size) op.row (.slice Ar op.row.length cr)) (hn:zAa zAb w (Lt w.heap.size) op.nodes (.slice An op.nodes.length cn)) (hrl:op.row.length≤1000000) (hnc:zAd op.nodes≤1000000) :
  Calls Tryz.prog 71 #[.agg (opC op (.slice Ar op.row.length cr) (.slice An op.nodes.length cn))] w fun e w'=>∃ Ar' cr' An' cn',e = .returned (.agg (opC op (.slice Ar' op.row.length cr') (.slice An' op.nodes.length cn')))∧zAh w' (New w w') op.row (.slice Ar' op.row.length cr')∧zAa zAb w' (New w w') op.nodes (.slice An' op.nodes.length cn')∧Below w.heap.size w w':=by
 obtain ⟨W0,hW0⟩:∃ W0,(w.alloc (.cells (opC op (.slice Ar op.row.length cr) (.slice An op.nodes.length cn)) 67)).alloc (.cells #[.int .i64 0,.slice none 0 0,.int .i64 0,.int .i64 0,.slice none 0 0,.int .i64 0,.string ⟨#[]⟩,.string ⟨#[]⟩] 67) = W0:=⟨_,rfl⟩
 have hz0:W0.heap.size = w.heap.size + 1 + 1:=by rw [← hW0];simp
 have hb0:Below w.heap.size w W0:=by rw [← hW0];exact ((Below.refl _ _).alloc (Nat.le_refl _) _).alloc (by simp) _
 have ho1:zAc W0 w.heap.size (.cells (opC op (.slice Ar op.row.length cr) (.slice An op.nodes.length cn)) 67):=by rw [← hW0];exact (zAc.at0 _ _).al _
 have ho2:zAc W0 (w.heap.size + 1) (.cells #[.int .i64 0,.slice none 0 0,.int .i64 0,.int .i64 0,.slice none 0 0,.int .i64 0,.string ⟨#[]⟩,.string ⟨#[]⟩] 67):=by rw [← hW0];exact zAc.at1 _ _ _
 have CI:=hid (zEe op.row W0 _ (hr.below hb0 hb0.size) hrl)
 have CN:Hid (∀ W,Below w.heap.size w W→Calls Tryz.prog 106 #[.slice An op.nodes.length cn] W (zMh W op.nodes)):=fun W hW=>zGe op.nodes _ W (hn.below hW hW.size) hnc
 have HB0:=hid hb0
 have HZ0:=hid hz0
 have HO1:=hid ho1
 have HO2:=hid ho2
 have m1:W0.cell? ⟨w.heap.size,1,none⟩ = some (.slice Ar op.row.length cr):=ho1.cell 1
 obtain ⟨kind,row,at_,n,nodes,slot,old,text⟩:=op
 simp only [opC] at *
 clear hr hn hrl hnc hb0 hz0 ho1 ho2
 go_enter Tryz.func71,Tryz.ntmps71
 go_wp2_with fail
 refine CI.out.mono ?_
 rintro e w1 ⟨v1,rfl,ho1,hb1⟩
 obtain ⟨A1,c1,rfl⟩:=(ho1.ints (S:=fun _=>True) (fun _ _ _=>trivial)).form
 have hri:zAh w1 (fun k=>W0.heap.size≤k∧k < w1.heap.size) row (.slice A1 row.length c1):=ho1.ints (fun k h1 h2=>⟨h1,h2⟩)
 have HRI:=hid hri
 have hq1:=HO1.out.below hb1
 have hq2:=HO2.out.below hb1
 have HB1:=hid (HB0.out.trans (hb1.mono HB0.out.size))
 have m1:w1.cell? ⟨w.heap.size,1,none⟩ = some (.slice Ar row.length cr):=hq1.cell 1
 have f1:w1.frozen? ⟨w.heap.size,1,none⟩ = false:=hq1.free 1
 have hs1:=hq1.set (i:=1) (.slice A1 row.length c1)
 have hs2:=hq2.far (g':=w.heap.size) (i:=1) (.slice A1 row.length c1) (by omega)
 have m4:(w1.setCell ⟨w.heap.size,1,none⟩ (.slice A1 row.length c1)).cell? ⟨w.heap.size,4,none⟩ = some (.slice An nodes.length cn):=hs1.cell 4
 have HS1:=hid hs1
 have HS2:=hid hs2
 have HB2:Hid (Below w.heap.size w (w1.setCell ⟨w.heap.size,1,none⟩ (.slice A1 row.length c1))):=HB1.out.setCell (p:=⟨w.heap.size,1,none⟩) (Nat.le_refl _) _
 have HRI2:Hid (zAh (w1.setCell ⟨w.heap.size,1,none⟩ (.slice A1 row.length c1)) (fun k=>W0.heap.size≤k∧k < w1.heap.size) row (.slice A1 row.length c1)):=hri.keep (fun q hq=>World.cell?_setCell_other _ _ _ _ (by intro e;have h9:=hq.1;rw [← e] at h9;have:=HZ0.out;simp only at h9;omega)) (fun _ h=>h)
 have HZ2:Hid ((w1.setCell ⟨w.heap.size,1,none⟩ (.slice A1 row.length c1)).heap.size = w1.heap.size):=by show _ = _;simp [World.setCell]
 have HZ1:=hid hb1.size
 clear ho1 hb1 hri hq1 hq2 hs1 hs2
 go_upto_region 2 with fail
 clear m1 f1
 generalize (w1.setCell ⟨w.heap.size,1,none⟩ (.slice A1 row.length c1)) = W2 at *
 go_wp2_with fail
 refine (CN.out W2 HB2.out).mono ?_
 rintro e w3 ⟨v3,rfl,ho3,hb3⟩
 have hrn:=ho3.rows
 obtain ⟨A3,c3,rfl⟩:=hrn.form
 have hq1:=HS1.out.below hb3
 have hq2:=HS2.out.below hb3
 have HB3:=hid (HB2.out.trans (hb3.mono HB2.out.size))
 have m4:w3.cell? ⟨w.heap.size,4,none⟩ = some (.slice An nodes.length cn):=hq1.cell 4
 have f4:w3.frozen? ⟨w.heap.size,4,none⟩ = false:=hq1.free 4
 have hs1:=hq1.set (i:=4) (.slice A3 nodes.length c3)
 have hs2:=hq2.far (g':=w.heap.size) (i:=4) (.slice A3 nodes.length c3) (by omega)
 have HB4:Hid (Below w.heap.size w (w3.setCell ⟨w.heap.size,4,none⟩ (.slice A3 nodes.length c3))):=HB3.out.setCell (p:=⟨w.heap.size,4,none⟩) (Nat.le_refl _) _
 have HZ4:Hid ((w3.setCell ⟨w.heap.size,4,none⟩ (.slice A3 nodes.length c3)).heap.size = w3.heap.size):=by show _ = _;simp [World.setCell]
 have HRI4:Hid (zAh (w3.setCell ⟨w.heap.size,4,none⟩ (.slice A3 nodes.length c3)) (fun k=>W0.heap.size≤k∧k < w3.heap.size) row (.slice A1 row.length c1)):=HRI2.out.keep (fun q hq=>(World.cell?_setCell_other _ _ _ _ (by intro e;have h9:=hq.1;rw [← e] at h9;have:=HZ0.out;simp only at h9;omega)).trans (hb3.cell (by rw [HZ2.out];exact hq.2))) (fun k hk=>⟨hk.1,by have:=hb3.size;rw [HZ2.out] at this;exact Nat.lt_of_lt_of_le hk.2 this⟩)
 have HRN4:Hid (zAa zAb (w3.setCell ⟨w.heap.size,4,none⟩ (.slice A3 nodes.length c3)) (fun k=>W0.heap.size≤k∧k < w3.heap.size) nodes (.slice A3 nodes.length c3)):=hrn.keep (fun q hq=>World.cell?_setCell_other _ _ _ _ (by intro e;have h9:=hq.1;rw [← e] at h9;rw [HZ2.out] at h9;have:=HZ1.out;have:=HZ0.out;simp only at h9;omega)) (fun k hk=>⟨by have h9:=hk.1;rw [HZ2.out] at h9;have:=HZ1.out;omega,hk.2⟩)
 have HH1:=hid hs1
 have HH2:=hid hs2
 clear ho3 hb3 hrn hq1 hq2 hs1 hs2
 go_upto_region 3 with fail
 clear m4 f4
 generalize (w3.setCell ⟨w.heap.size,4,none⟩ (.slice A3 nodes.length c3)) = W4 at *
 have hf1:=HH1.out
 simp only [List.setIfInBounds_toArray,List.set_cons_zero,List.set_cons_succ] at hf1
 have HF1:=hid hf1
 clear hf1 HH1
 go_wp2_with (first
  | (refine wpList_load_row rfl 67 (.tmp 1) rfl w.heap.size rfl 67 _ (0,0) _ HF1.out Tryz.underlying67 rfl (by kernel_rfl) ?_)
  | (refine wpList_store_row rfl 67 (.tmp 2) (.tmp 11) rfl (w.heap.size + 1) _ rfl rfl 67 _ HH2.out (by kernel_rfl) (by simp) (by simp [Value.oneCell']) ?_))
 refine bodyPost_ret (v:=.agg #[.int .i64 kind,.slice A1 row.length c1,.int .i64 at_,.int .i64 n,.slice A3 nodes.length c3,.int .i64 slot,.string old,.string text]) (results_cell_row Tryz.results71 _ _ (w.heap.size + 1) 67 _ (0,0) _ rfl (setRow_heap _ _ _ _ _ _ HH2.out) Tryz.underlying67 rfl (by kernel_rfl)) rfl ?_
 have HZZ:=HZ0.out
 have hfr:∀ q:Addr,W0.heap.size≤q.block→(W4.setRow (w.heap.size + 1) #[.int .i64 kind,.slice A1 row.length c1,.int .i64 at_,.int .i64 n,.slice A3 nodes.length c3,.int .i64 slot,.string old,.string text]).cell? q = W4.cell? q:=fun q hq=>World.cell?_of_block (setRow_other _ _ _ _ (by omega))
 exact ⟨A1,c1,A3,c3,rfl,HRI4.out.keep (fun q hq=>hfr q hq.1) (fun k hk=>⟨by have:=hk.1;omega,by rw [size_setRow,HZ4.out];exact hk.2⟩),HRN4.out.keep (fun q hq=>hfr q hq.1) (fun k hk=>⟨by have:=hk.1;omega,by rw [size_setRow,HZ4.out];exact hk.2⟩),zAk HB4.out (by omega) _⟩
def zN:Value:=.agg #[.int .i64 0,.string ⟨#[]⟩,.int .i64 0,.slice none 0 0]
def GrowPN (w:World) (e:Ending) (w':World):Prop:=∃ v,e = .returned v∧w'.ownsRow w.heap.size 24 4 v 0 []∧Below w.heap.size w w'
set_option maxHeartbeats 400000 in
theorem zQf (w:World) (n:Nat) (hn:n≤1000000000):Calls Tryz.prog 185 #[.slice none 0 0,.int .i64 n] w (GrowPN w):=by
 obtain ⟨i0,hi0,hz0,hz1,hz2⟩:=info_parts zF6
 rcases Nat.eq_zero_or_pos n with h0 | h0
 ·subst h0
  go_enter Tryz.func185,Tryz.ntmps185
  go_wp2
  go_ret
  exact ⟨_,rfl,⟨by simp,.inl ⟨rfl,rfl⟩⟩,Below.refl _ _⟩
 ·have hrz:∀ ty,(Builtin.append_ #[22,3] ty #[.slice none 0 0,.int .i64 (n:Int)]).run Tryz.prog w =
    .ok (.slice (some ⟨w.heap.size,0,none⟩) n (grownCap w n 0 24)) (w.drew.alloc (.cells (Builtin.zeroCells zN.cells n ++ Builtin.zeroCells zN.cells (grownCap w n 0 24 - n)) 24)):=fun ty=>by
   have h:=Lib.run_append_grow_zeros (P:=Tryz.prog) w 22 3 ty 24 i0 zN .i64 .i64 Tryz.underlying22 Tryz.underlying3 hi0 hz0 none 0 0 []
    (run_firstCells_none w.drew i0.size 0 0 0) n h0 (by omega) (by omega) (by omega) (by rw [hz2];omega)
    (by rw [hz2];exact growslice_fits (by omega) (by omega))
   simpa using h
  have hG1:n≤grownCap w n 0 24:=grownCap_ge w _ _ _
  have hG2:=grownCap_le_maxLen w n 0 24 (by unfold maxLen;omega)
  have hbelow:Below w.heap.size w (w.drew.alloc (.cells (Builtin.zeroCells zN.cells n ++ Builtin.zeroCells zN.cells (grownCap w n 0 24 - n)) 24)):=(Below.refl _ _).drew.alloc (Nat.le_refl _) _
  have hown:(w.drew.alloc (.cells (Builtin.zeroCells zN.cells n ++ Builtin.zeroCells zN.cells (grownCap w n 0 24 - n)) 24)).ownsRow w.heap.size 24 4 (.slice (some ⟨w.heap.size,0,none⟩) 0 (grownCap w n 0 24)) 0 [] :=
   World.ownsRow_made w.drew _ _ (Nat.le_refl _) hG2 (by rw [Array.size_append,size_zeroCells,size_zeroCells];simp [Value.cells,zN];omega)
  obtain ⟨G,hG⟩:∃ G,G = grownCap w n 0 24:=⟨_,rfl⟩
  rw [← hG] at hrz hG1 hG2 hbelow hown
  unfold maxLen at hG2
  obtain ⟨W,hW⟩:∃ W,W = (w.drew.alloc (.cells (Builtin.zeroCells zN.cells n ++ Builtin.zeroCells zN.cells (G - n)) 24)):=⟨_,rfl⟩
  rw [← hW] at hrz hbelow hown
  have HO:=hid hown
  have HB:=hid hbelow
  clear hown hbelow hG hW
  go_enter Tryz.func185,Tryz.ntmps185
  go_wp2_with (at_builtin;refine Lib.wpList_append_run _ rfl _ _ _ _ rfl _ _ rfl rfl _ _ (hrz _) ?_)
  go_ret
  exact ⟨_,rfl,HO.out,HB.out⟩
theorem zNt {w:World} {S:Nat→Prop} {xss:List (List Tree)} {A:Option Addr} {cs:List Value} (h3:zBk w S A cs) (h4:zAw (zC0 zAb) w S xss cs) {k:Nat} (hk:k < xss.length) :
  ∃ g o A' cap',A = some ⟨g,o,none⟩∧S g∧w.cell? ⟨g,o + k,none⟩ = some (.slice A' xss[k].length cap')∧zAa zAb w S xss[k] (.slice A' xss[k].length cap'):=by
 obtain ⟨g,o,c,e,hb,⟨v,rfl,A',cap',rs,rfl,h⟩,hc⟩:=zFa h3 h4 hk
 exact ⟨g,o,A',cap',e,hb,by simpa [zC0] using hc 0 _ rfl,A',cap',rs,rfl,h⟩
def zE2 (xss:List (List Tree)):Nat:=xss.flatten.length
theorem zHj (xss:List (List Tree)) (k:Nat):zE2 (xss.take k)≤zE2 xss:=by
 unfold zE2
 conv=>rhs;rw [← List.take_append_drop k xss]
 rw [List.flatten_append,List.length_append];omega
theorem zGr (xss:List (List Tree)) {k:Nat} (hk:k < xss.length):(xss.take (k + 1)).flatten = (xss.take k).flatten ++ xss[k]:=by
 rw [List.take_succ_eq_append_getElem hk,List.flatten_append,List.flatten_cons,List.flatten_nil,List.append_nil]
set_option maxHeartbeats 1000000 in
theorem zNd (xss:List (List Tree)) (w:World) (v:Value) (S:Nat→Prop) (hS:∀ q,S q→q < w.heap.size) (hv:zAa (zC0 zAb) w S xss v) (hlen:xss.flatten.length≤1000000) :
  Calls Tryz.prog 182 #[v] w (zEb S w xss.flatten):=by
 obtain ⟨A,cap,rs,rfl,hcap,hmax,hrd,hls⟩:=hv
 unfold maxLen at hmax
 have hl1:xss.length≤9223372036854775807:=by omega
 have HS:=hid hS
 have H:Hid (∀ W,Below w.heap.size w W→zBk W S A rs∧zAw (zC0 zAb) W S xss rs):=fun W hW=>⟨hrd.keep (fun q hq=>hW.cell (hS _ hq)) (fun _ h=>h),hls.keep (fun q hq=>hW.cell (hS _ hq)) (fun _ h=>h)⟩
 clear hrd hls hS
 have hfl:zE2 xss≤1000000:=hlen
 clear hlen
 go_enter Tryz.func182,Tryz.ntmps182
 go_wp2
 go_loop [3,11] (fun s i=>∃ k:Nat,k≤xss.length∧i = .int .i64 k∧s = .int .i64 (zE2 (xss.take k))) (fun _ i=>xss.length - (intOf i).toNat)
 case atStart=>exact ⟨0,Nat.zero_le _,rfl,rfl⟩
 case round =>
  obtain ⟨k,hk,rfl,rfl⟩:=hrel
  have hf1:=zHj xss k
  by_cases hlt:k < xss.length
  ·obtain ⟨g,o,A',cap',rfl,hg,c0,_⟩:=zNt (H.out w (Below.refl _ _)).1 (H.out w (Below.refl _ _)).2 hlt
   replace hg:=HS.out _ hg
   have hf2:=zHj xss (k + 1)
   have HF:Hid (zE2 (xss.take (k + 1)) = zE2 (xss.take k) + xss[k].length):=by show _ = _;unfold zE2;rw [zGr xss hlt,List.length_append]
   have hf3:zE2 (xss.take k) + xss[k].length≤1000000:=by rw [← HF.out];omega
   have hneg:decide ((zE2 (xss.take k):Int) + (xss[k].length:Int) < 0) = false:=by simp;omega
   go_wp2
   go_round
   case rel=>exact ⟨k + 1,by omega,by go_num,by rw [HF.out];go_num⟩
   case measure=>simp [intOf];omega
  ·have hfe:zE2 (xss.take k) = zE2 xss:=by rw [List.take_of_length_le (by omega)]
   rw [hfe]
   clear hfe
   go_wp2_with fail
   refine (zQf w (zE2 xss) (by omega)).mono ?_
   rintro e w1 ⟨v1,rfl,hown1,hb1⟩
   have HO:Hid (OwnT w1 w.heap.size S [] v1∧Below w.heap.size w w1):=⟨⟨[],hown1,rfl⟩,hb1⟩
   have hz1':=hb1.size
   clear hown1 hb1
   go_wp2_with fail
   go_loopw [6,27] (fun s i wr=>Below w.heap.size w1 wr∧∃ k:Nat,k≤xss.length∧i = .int .i64 k∧OwnT wr w.heap.size S (xss.take k).flatten s) (fun _ i _=>xss.length - (intOf i).toNat)
   case atStart=>exact ⟨Below.refl _ _,0,Nat.zero_le _,rfl,by simpa using HO.out.1⟩
   case round =>
    obtain ⟨hbw,k,hk,rfl,hown⟩:=hrel
    have hf1:=zHj xss k
    by_cases hlt:k < xss.length
    ·obtain ⟨g,o,A',cap',rfl,hg,c0,hr⟩:=zNt (H.out wr (HO.out.2.trans hbw)).1 (H.out wr (HO.out.2.trans hbw)).2 hlt
     replace hg:=HS.out _ hg
     have hf2:=zHj xss (k + 1)
     have HF:Hid (zE2 (xss.take (k + 1)) = zE2 (xss.take k) + xss[k].length):=by show _ = _;unfold zE2;rw [zGr xss hlt,List.length_append]
     have hf3:zE2 (xss.take k) + xss[k].length≤1000000:=by rw [← HF.out];omega
     have hsz:w.heap.size≤wr.heap.size:=Nat.le_trans hz1' hbw.size
     have HRd:=hid hr
     have HOw:=hid hown
     clear hr hown hfl
     go_wp2_with (at_builtin;refine appT rfl (.tmp 31) (.tmp 32) rfl w.heap.size S HS.out _ (xss.take k).flatten xss[k] rfl HOw.out _ _ _ rfl HRd.out (by unfold zE2 at hf3;omega) hsz ?_;intro v2 w2 hown2 hb2)
     have HB2:=hid hb2
     have HO2:=hid hown2
     clear hb2 hown2
     go_roundw
     case rel=>exact ⟨hbw.trans HB2.out,k + 1,by omega,by go_num,by rw [zGr xss hlt];exact HO2.out⟩
     case measure=>simp [intOf];omega
    ·have he:xss.take k = xss:=List.take_of_length_le (by omega)
     rw [he] at hown
     have HOw:=hid hown
     have HB:=hid hbw
     clear he hown hbw
     go_wp2_with fail
     go_ret
     exact ⟨_,rfl,HOw.out.rowsN,HO.out.2.trans HB.out⟩
set_option maxHeartbeats 400000 in
theorem zO4 (xs:List Tree) (w:World) (v:Value) (S:Nat→Prop) (hS:∀ q,S q→q < w.heap.size) (hv:zAa zAb w S xs v) (hlen:xs.length≤1000000) :
  Calls Tryz.prog 168 #[v] w (zEb S w xs):=by
 have HV:=hid hv
 obtain ⟨A,cap,rs,rfl,hcap,hmax,hrd,hls⟩:=hv
 unfold maxLen at hmax
 have hl1:xs.length≤9223372036854775807:=by omega
 have HL:Hid (rs.length = xs.length * 4):=hls.len
 have HS:=hid hS
 clear hls hS
 rcases A with _ | ad
 ·have h0:xs.length = 0:=by
   rcases Nat.eq_zero_or_pos xs.length with h0 | h0
   ·exact h0
   ·obtain ⟨ad,h⟩:=hrd.some_ (by rw [HL.out];omega);cases h
  have hx:xs = []:=List.eq_nil_of_length_eq_zero h0
  subst hx
  clear hrd HL HV
  have hn:=fun w=>Lib.run_eql_slice_nil (P:=Tryz.prog) w
  go_enter Tryz.func168,Tryz.ntmps168
  go_wp2
  go_ret
  exact ⟨_,rfl,zAa.nil_ 0 (Nat.zero_le _) none,Below.refl _ _⟩
 ·have hb0:Below w.heap.size w (w.alloc (.cells #[] 24)):=blA _ _
  have HV':Hid (zAa zAb (w.alloc (.cells #[] 24)) S xs (.slice (some ad) xs.length cap)):=HV.out.keep (fun q hq=>hb0.cell (HS.out _ hq)) (fun _ h=>h)
  have HB:=hid hb0
  have hn:=fun w=>Lib.run_eql_slice_nil (P:=Tryz.prog) w
  clear hrd HL HV hb0
  go_enter Tryz.func168,Tryz.ntmps168
  go_wp2_with (at_builtin;refine appT rfl (.tmp 5) (.tmp 6) rfl w.heap.size S HS.out _ [] xs rfl (OwnT.empty w S) _ _ _ rfl HV'.out (by simp;omega) (by simp) ?_;intro v' w' hown hb1)
  go_ret
  exact ⟨_,rfl,OwnT.rowsN (ts:=xs) hown,HB.out.trans hb1⟩
set_option maxHeartbeats 2000000 in
theorem zOw (k s:Int) (items:List Tree) (x:ByteArray) (f:Bool) (An:Option Addr) (cn:Nat) (w:World) (hn:zAa zAb w (Lt w.heap.size) items (.slice An items.length cn)) (hx:x.size≤maxLen) :
  Calls Tryz.prog 46 #[.agg #[.int .i64 k,.slice An items.length cn,.int .i64 s,.string x,.bool f]] w fun e w'=>e = .returned (.bool (fewS (rowT items) 100 && decide ((x.size:Int)≤300)))∧Below w.heap.size w w':=by
 obtain ⟨W0,hW0⟩:∃ W0,w.alloc (.cells #[.int .i64 k,.slice An items.length cn,.int .i64 s,.string x,.bool f] 44) = W0:=⟨_,rfl⟩
 have hb0:Below w.heap.size w W0:=by rw [← hW0];exact blA _ _
 have ho:zAc W0 w.heap.size (.cells #[.int .i64 k,.slice An items.length cn,.int .i64 s,.string x,.bool f] 44):=by rw [← hW0];exact zAc.at0 _ _
 have CF:Hid (∀ W,Below W0.heap.size W0 W→Calls Tryz.prog 13 #[.agg #[.int .i64 1,.string ⟨#[]⟩,.int .i64 0,.slice An items.length cn],.int .i64 100] W fun e w'=>e = .returned (.bool (fewS (rowT items) 100))∧Below W.heap.size W w'):=fun W hW=>zQi (rowT items) W _ 100 ((hn.below hb0 hb0.size).below hW hW.size) (by omega) (by omega)
 have HO:=hid ho
 have HB0:=hid hb0
 have m1:=ho.cell 1
 simp only [List.getElem?_toArray,List.getElem?_cons_zero,List.getElem?_cons_succ] at m1
 obtain ⟨bf,hbf⟩:∃ bf,fewS (rowT items) 100 = bf:=⟨_,rfl⟩
 rw [hbf] at CF ⊢
 obtain ⟨bx,hbx⟩:∃ bx,decide ((x.size:Int)≤300) = bx:=⟨_,rfl⟩
 clear hn hb0 ho hbf
 go_enter Tryz.func46,Tryz.ntmps46
 go_wp2_with fail
 refine (zPg _ _ _ _).mono ?_
 rintro e w1 ⟨rfl,hb1⟩
 have HB1:=hid hb1
 clear hb1 m1 hW0
 go_wp2_with fail
 refine (CF.out _ HB1.out).mono ?_
 rintro e w2 ⟨rfl,hb2⟩
 have ho2:=(HO.out.below HB1.out).below hb2
 have HB2:=hid (zAq (zAq HB0.out HB1.out) hb2)
 have m3:=ho2.cell 3
 simp only [List.getElem?_toArray,List.getElem?_cons_zero,List.getElem?_cons_succ] at m3
 clear hb2 ho2
 cases bf
 all_goals
  go_wp2_with fail
  go_ret
  exact ⟨by simp [hbx],HB2.out⟩
def zG3 (t:Tree) (p m:List Int) (items:List Tree) (x:ByteArray):Bool:=fewS t 300 && (decide ((p.length:Int)≤60) && (decide ((m.length:Int)≤60) && (fewS (rowT items) 100 && decide ((x.size:Int)≤300))))
set_option maxHeartbeats 2000000 in
theorem zQj (t:Tree) (p m:List Int) (k s:Int) (items:List Tree) (x:ByteArray) (f:Bool) (A Ap Am An:Option Addr) (cap cp cm cn:Nat) (w:World) (hv:zAa zAb w (Lt w.heap.size) t.kids (.slice A t.kids.length cap)) (hn:zAa zAb w (Lt w.heap.size) items (.slice An items.length cn)) (hx:x.size≤maxLen) :
  Calls Tryz.prog 17 #[.agg #[.int .i64 t.kind,.string t.text,.int .i64 t.cols,.slice A t.kids.length cap],.agg #[.slice Ap p.length cp,.slice Am m.length cm],.agg #[.int .i64 k,.slice An items.length cn,.int .i64 s,.string x,.bool f]] w fun e w'=>e = .returned (.bool (zG3 t p m items x))∧Below w.heap.size w w':=by
 obtain ⟨W0,hW0⟩:∃ W0,((w.alloc (.cells #[.int .i64 t.kind,.string t.text,.int .i64 t.cols,.slice A t.kids.length cap] 24)).alloc (.cells #[.slice Ap p.length cp,.slice Am m.length cm] 33)).alloc (.cells #[.int .i64 k,.slice An items.length cn,.int .i64 s,.string x,.bool f] 44) = W0:=⟨_,rfl⟩
 have hb0:Below w.heap.size w W0:=by rw [← hW0];exact zAp (zAp (blA _ _) _) _
 have ho1:zAc W0 w.heap.size (.cells #[.int .i64 t.kind,.string t.text,.int .i64 t.cols,.slice A t.kids.length cap] 24):=by rw [← hW0];exact ((zAc.at0 _ _).al _).al _
 have ho2:zAc W0 (w.heap.size + 1) (.cells #[.slice Ap p.length cp,.slice Am m.length cm] 33):=by rw [← hW0];exact (zAc.at1 _ _ _).al _
 have ho3:zAc W0 (w.heap.size + 1 + 1) (.cells #[.int .i64 k,.slice An items.length cn,.int .i64 s,.string x,.bool f] 44):=by rw [← hW0];exact zAc.at2 _ _ _ _
 have CF:Hid (Calls Tryz.prog 13 #[.agg #[.int .i64 t.kind,.string t.text,.int .i64 t.cols,.slice A t.kids.length cap],.int .i64 300] W0 fun e w'=>e = .returned (.bool (fewS t 300))∧Below W0.heap.size W0 w'):=zQi t W0 _ 300 (hv.below hb0 hb0.size) (by omega) (by omega)
 have CR:Hid (∀ W,Below W0.heap.size W0 W→Calls Tryz.prog 46 #[.agg #[.int .i64 k,.slice An items.length cn,.int .i64 s,.string x,.bool f]] W fun e w'=>e = .returned (.bool (fewS (rowT items) 100 && decide ((x.size:Int)≤300)))∧Below W.heap.size W w'):=fun W hW=>zOw k s items x f An cn W ((hn.below hb0 hb0.size).below hW hW.size) hx
 have HB0:=hid hb0
 have m0:=ho1.cell 0
 have m1:=ho1.cell 1
 have m2:=ho1.cell 2
 have m3:=ho1.cell 3
 simp only [List.getElem?_toArray,List.getElem?_cons_zero,List.getElem?_cons_succ] at m0 m1 m2 m3
 have HO2:=hid ho2
 have HO3:=hid ho3
 unfold zG3
 obtain ⟨bf,hbf⟩:∃ bf,fewS t 300 = bf:=⟨_,rfl⟩
 rw [hbf] at CF ⊢
 obtain ⟨br,hbr⟩:∃ br,(fewS (rowT items) 100 && decide ((x.size:Int)≤300)) = br:=⟨_,rfl⟩
 rw [hbr] at CR ⊢
 obtain ⟨b1,hb1⟩:∃ b1,decide ((p.length:Int)≤60) = b1:=⟨_,rfl⟩
 obtain ⟨b2,hb2⟩:∃ b2,decide ((m.length:Int)≤60) = b2:=⟨_,rfl⟩
 clear hv hn hb0 ho1 ho2 ho3 hbf hbr
 go_enter Tryz.func17,Tryz.ntmps17
 go_wp2_with fail
 refine CF.out.mono ?_
 rintro e w1 ⟨rfl,hbw⟩
 have HBW:=hid (zAq HB0.out hbw)
 have HW1:=hid hbw
 have h2:=HO2.out.below hbw
 have h3:=HO3.out.below hbw
 have n0:=h2.cell 0
 have n1:=h2.cell 1
 have c0:=h3.cell 0
 have c1:=h3.cell 1
 have c2:=h3.cell 2
 have c3:=h3.cell 3
 have c4:=h3.cell 4
 simp only [List.getElem?_toArray,List.getElem?_cons_zero,List.getElem?_cons_succ] at n0 n1 c0 c1 c2 c3 c4
 clear hbw h2 h3 m0 m1 m2 m3 hW0 CF
 cases bf
 case false =>
  go_wp2_with fail
  go_ret
  exact ⟨by simp,HBW.out⟩
 cases b1
 case false =>
  go_wp2_with fail
  go_ret
  exact ⟨by simp [hb1],HBW.out⟩
 cases b2
 case false =>
  go_wp2_with fail
  go_ret
  exact ⟨by simp [hb1,hb2],HBW.out⟩
 go_wp2_with fail
 refine (CR.out _ HW1.out).mono ?_
 rintro e w2 ⟨rfl,hb3⟩
 have HB3:=hid (zAq HBW.out hb3)
 clear hb3 n0 n1 c0 c1 c2 c3 c4
 go_wp2_with fail
 go_ret
 exact ⟨by simp [hb1,hb2],HB3.out⟩
end Go.Proofs.YtbjcioknfjofkaaGreat
