/- Texts put together. -/
import Derived.Test.YtbjcioknfjofkaaGreatQ2a6bd4da00
import Derived.Test.YtbjcioknfjofkaaGreatQfe3dc0b62f
import Derived.Test.YtbjcioknfjofkaaGreatQb55496f77f
import Derived.Test.YtbjcioknfjofkaaGreatQ15642f0ed8
import Derived.Test.YtbjcioknfjofkaaGreatQ9363d70317
import Derived.Test.YtbjcioknfjofkaaGreatQ0a2d1212ff
import Derived.Test.YtbjcioknfjofkaaGreatQ780eb66c79
import Derived.Test.YtbjcioknfjofkaaGreatQfd81565843
import Derived.Test.YtbjcioknfjofkaaGreatQ87d3108caf
import Derived.Test.YtbjcioknfjofkaaGreatQ738aa96999
import Derived.Test.YtbjcioknfjofkaaGreatQ8c13868fc1
import Derived.Deep.LoopGhost
import Derived.Deep.QuietTactic
import Derived.BigQuiet
import Derived.Deep.RegionHeld3
import Derived.BigRegion
import Derived.RangeFuncNested
import Derived.RangeFuncBound
import Derived.RangeFuncCalls
import Derived.RangeFuncLeaves
set_option linter.unusedVariables false
set_option linter.unusedSimpArgs false
set_option maxRecDepth 100000
namespace Go.Proofs.YtbjcioknfjofkaaGreat
open Go.RowKit
def Sv (h:Nat) (lv:Value) (wr:World) (k:Nat):Prop:=h≤k∧k < wr.heap.size∧k≠h + 1∧some k≠lv.ownBlock
def addrs (P:List zCo):List (Nat × Nat):=P.map fun x=>(x.1,x.2.1)
def pcnt:List zCo→Nat
 | []=>0
 | x :: P=>zAe x.2.2 + pcnt P
theorem zDe (P Q:List zCo):pcnt (P ++ Q) = pcnt P + pcnt Q:=by
 induction P with
 | nil=>simp [pcnt]
 | cons x P ih=>simp only [List.cons_append,pcnt,ih];omega
def zE1 (g:Nat):Nat→List Tree→List zCo
 | _,[]=>[]
 | i,t :: ts=>(g,i * 4,t) :: zE1 g (i + 1) ts
def zCl (g:Nat) (ts:List Tree):List zCo:=zE1 g 0 ts
theorem zH2 (g:Nat):∀ (ts:List Tree) (i:Nat),(zE1 g i ts).length = ts.length
 | [],i=>rfl
 | t :: ts,i=>by simp [zE1,zH2 g ts (i + 1)]
theorem zF9 (g : Nat) : ∀ (ts : List Tree) (i j : Nat) (h : j < ts.length), (zE1 g i ts)[j]? = some (g, (i + j) * 4, ts[j])
  | t :: ts, i, 0, h => by simp [zE1]
  | t :: ts, i, j + 1, h => by
    simp only [zE1, List.getElem?_cons_succ, List.getElem_cons_succ]
    rw [zF9 g ts (i + 1) j (by simpa using h), show i + 1 + j = i + (j + 1) by omega]
theorem zH3 (g:Nat):∀ (ts:List Tree) (i:Nat),pcnt (zE1 g i ts) = zAd ts
 | [],i=>rfl
 | t :: ts,i=>by simp only [zE1,pcnt,zAd,zH3 g ts (i + 1)]
structure DI (w wr:World) (e en:TypeId) (lv:Value) (t:Tree) (SL PL:List zCo):Prop where
 stack:zG4 wr (w.heap.size + 2) e lv SL
 pend:∀ x ∈ PL,zFo w wr (Sv w.heap.size lv wr) x
 nodup:(addrs PL).Nodup
 built:zFw wr (Sv w.heap.size lv wr) (· ∈ PL) w.heap.size 0 t
 below:Below w.heap.size w wr
 box:w.heap.size + 2≤wr.heap.size
 frz:∀ x ∈ PL,wr.frozen? ⟨x.1,x.2.1 + 3,none⟩ = false
 res:wr.heap[w.heap.size + 1]? = some (.cells #[.int .i64 0,.string ⟨#[]⟩,.int .i64 0,.slice none 0 0] en (0,0))
theorem DI.push {w wr w':World} {e en:TypeId} {lv v':Value} {t:Tree} {SL SL' PL:List zCo} (hd:DI w wr e en lv t SL PL) (hs:zG4 w' (w.heap.size + 2) e v' SL') (hg:wr.grownBy w' lv.ownBlock) (hv:∀ k,v'.ownBlock = some k→lv.ownBlock = some k∨wr.heap.size≤k)
  : DI w w' e en v' t SL' PL:=by
 have hS:∀ k,Sv w.heap.size lv wr k→Sv w.heap.size v' w' k:=fun k hk=>⟨hk.1,Nat.lt_of_lt_of_le hk.2.1 hg.size,hk.2.2.1,fun e=>by
  rcases hv k e.symm with h | h
  ·exact hk.2.2.2 h.symm
  ·have:=hk.2.1;omega⟩
 have hc:∀ q:Addr,Sv w.heap.size lv wr q.block→w'.cell? q = wr.cell? q:=fun q hq=>World.cell?_of_block (hg.block q.block hq.2.1 hq.2.2.2)
 have hb:∀ k,lv.ownBlock = some k→w.heap.size≤k:=fun k hk=>by have:=(hd.stack.lt k hk).1;omega
 refine ⟨hs,fun x hx=>(hd.pend x hx).keep hS (fun j _=>hc ⟨x.1,x.2.1 + j,none⟩ (hd.pend x hx).1),hd.nodup,hd.built.keep hS hc (fun _ h=>h),hd.below.grown hg (by have:=hd.box;omega) (fun k e=>hb k e),Nat.le_trans hd.box hg.size,fun x hx=>(World.frozen?_of_block (hg.block x.1 (hd.pend x hx).1.2.1 (hd.pend x hx).1.2.2.2)).trans (hd.frz x hx),(hg.block _ (by have:=hd.box;omega) (fun e=>by have:=(hd.stack.lt _ e.symm).1;omega)).trans hd.res⟩
theorem DI.result {w wr:World} {e en:TypeId} {lv:Value} {t:Tree} {SL:List zCo} (hd:DI w wr e en lv t SL []):∃ v,zDb wr w.heap.size 0 t v∧zAa zAb wr (Sv w.heap.size lv wr) t.kids v:=by
 obtain ⟨v,h1,_,h3⟩:=hd.built.reads (fun x h=>by cases h)
 exact ⟨v,h1,h3⟩
theorem zEo {g:Nat} {ts:List Tree} {x:zCo}:x ∈ zCl g ts ↔ ∃ (i:Nat) (h:i < ts.length),x = (g,i * 4,ts[i]):=by
 constructor
 ·intro hx
  obtain ⟨i,hi,h⟩:=List.mem_iff_getElem.1 hx
  have hi':i < ts.length:=by rw [← zH2 g ts 0];exact hi
  have:=zF9 g ts 0 i hi'
  rw [Nat.zero_add] at this
  refine ⟨i,hi',?_⟩
  have h2:(zCl g ts)[i]? = some x:=by rw [List.getElem?_eq_getElem hi,h]
  rw [zCl,this] at h2
  exact (Option.some.inj h2).symm
 ·rintro ⟨i,hi,rfl⟩
  have:=zF9 g ts 0 i hi
  rw [Nat.zero_add] at this
  exact List.mem_of_getElem? this
theorem zN3 (g : Nat) : ∀ (ts : List Tree) (i : Nat), ∀ a ∈ addrs (zE1 g i ts), i * 4 ≤ a.2
  | [], i, a, h => by simp [zE1, addrs] at h
  | t :: ts, i, a, h => by
    simp only [zE1, addrs, List.map_cons, List.mem_cons] at h
    rcases h with rfl | h
    · simp
    · have := zN3 g ts (i + 1) a h
      omega
theorem zH1 (g : Nat) : ∀ (ts : List Tree) (i : Nat), (addrs (zE1 g i ts)).Nodup
  | [], i => by simp [zE1, addrs]
  | t :: ts, i => by
    simp only [zE1, addrs, List.map_cons, List.nodup_cons]
    refine ⟨fun h => ?_, zH1 g ts (i + 1)⟩
    have := zN3 g ts (i + 1) _ h
    simp only at this
    omega
theorem zMy {g:Nat} {ts:List Tree}:(addrs (zCl g ts)).Nodup:=zH1 g ts 0
theorem DI.node {w wr W4:World} {e en:TypeId} {lv lv':Value} {t:Tree} {Q:List zCo} {x:zCo} {g' cap':Nat} {A':Option Addr} (hd:DI w wr e en lv t (Q ++ [x]) (Q ++ [x]))
  (hk:∀ q:Addr,q.block < wr.heap.size→q≠⟨x.1,x.2.1 + 3,none⟩→W4.cell? q = wr.cell? q) (hs:zG4 W4 (w.heap.size + 2) e lv' Q) (hown:lv'.ownBlock = lv.ownBlock) (hb:Below w.heap.size w W4) (hsz:wr.heap.size≤W4.heap.size)
  (hf:∀ q:Addr,q.block < wr.heap.size→W4.frozen? q = wr.frozen? q) (hfn:0 < x.2.2.kids.length→∀ o,W4.frozen? ⟨g',o,none⟩ = false) (hres:W4.heap[w.heap.size + 1]? = wr.heap[w.heap.size + 1]?) (hc:W4.cell? ⟨x.1,x.2.1 + 3,none⟩ = some (.slice A' x.2.2.kids.length cap')) (hcap:x.2.2.kids.length≤cap') (hmax:cap'≤maxLen)
  (hg:wr.heap.size≤g') (hA:0 < x.2.2.kids.length→A' = some ⟨g',0,none⟩∧g' < W4.heap.size)
  (hcells:∀ (i:Nat) (hi:i < x.2.2.kids.length),zAu x.2.2.kids[i]∧∃ v,zDb W4 g' (i * 4) x.2.2.kids[i] v∧zAa zAb w (Lt w.heap.size) x.2.2.kids[i].kids v) :
  DI w W4 e en lv' t Q (Q ++ zCl g' x.2.2.kids):=by
 have hS:∀ k,Sv w.heap.size lv wr k→Sv w.heap.size lv' W4 k:=fun k hk=>⟨hk.1,Nat.lt_of_lt_of_le hk.2.1 hsz,hk.2.2.1,by rw [hown];exact hk.2.2.2⟩
 have hbx:=hd.box
 have hlt:∀ k,lv.ownBlock = some k→k < wr.heap.size:=fun k hk=>(hd.stack.lt k hk).2
 have hSg:0 < x.2.2.kids.length→Sv w.heap.size lv' W4 g':=fun h=>⟨by omega,(hA h).2,by omega,by rw [hown];intro e;have:=hlt _ e.symm;omega⟩
 have hkS:∀ q:Addr,Sv w.heap.size lv wr q.block→q≠⟨x.1,x.2.1 + 3,none⟩→W4.cell? q = wr.cell? q:=fun q hq hne=>hk q hq.2.1 hne
 have hx:=hd.pend x (by simp)
 have hnd:=hd.nodup
 unfold addrs at hnd
 rw [List.map_append,List.nodup_append] at hnd
 refine ⟨hs,?_,?_,?_,hb,Nat.le_trans hbx hsz,?_,hres.trans hd.res⟩
 ·intro y hy
  rcases List.mem_append.1 hy with hy | hy
  ·refine (hd.pend y (by simp [hy])).other hx.2.1 (fun e=>?_) hS hkS
   exact hnd.2.2 _ (List.mem_map_of_mem hy) _ (List.mem_map_of_mem (List.mem_singleton_self x)) (by rw [Prod.mk.injEq];exact e)
  ·obtain ⟨i,hi,rfl⟩:=zEo.1 hy
   obtain ⟨h1,v,h2,h3⟩:=hcells i hi
   exact ⟨hSg (by omega),⟨i,rfl⟩,h1,v,h2,h3⟩
 ·unfold addrs
  rw [List.map_append,List.nodup_append]
  refine ⟨hnd.1,zMy,?_⟩
  intro a ha b hb' e
  subst e
  obtain ⟨y,hy,rfl⟩:=List.mem_map.1 ha
  obtain ⟨z,hz,hz2⟩:=List.mem_map.1 hb'
  obtain ⟨i,hi,rfl⟩:=zEo.1 hz
  have h1:=(hd.pend y (by simp [hy])).1.2.1
  have h2:g' = y.1:=congrArg Prod.fst hz2
  omega
 ·refine zFw.step (g':=g') hx (fun y hy=>?_) hS (fun k hk=>hk.1) hkS hc hcap hmax (fun h=>⟨(hA h).1,hSg h⟩) (fun i hi=>List.mem_append_right _ (zEo.2 ⟨i,hi,rfl⟩)) hd.built
  rcases List.mem_append.1 hy with hy | hy
  ·exact .inr (List.mem_append_left _ hy)
  ·exact .inl (List.mem_singleton.1 hy)
 ·intro y hy
  rcases List.mem_append.1 hy with hy | hy
  ·exact (hf _ (hd.pend y (by simp [hy])).1.2.1).trans (hd.frz y (by simp [hy]))
  ·obtain ⟨i,hi,rfl⟩:=zEo.1 hy
   exact hfn (by omega) _
theorem zMb {w W4:World} {S:Nat→Prop} {ts:List Tree} {cs:List Value} {g':Nat} {T:TypeId} (hg:W4.heap[g']? = some (.cells cs.toArray T (0,0))) (hl:zAw zAb w S ts cs) :
  ∀ (i:Nat) (hi:i < ts.length),zAu ts[i]∧∃ v,zDb W4 g' (i * 4) ts[i] v∧zAa zAb w S ts[i].kids v:=by
 intro i hi
 obtain ⟨c,_,hR,hc⟩:=hl.at_ hi
 obtain ⟨v,rfl,h1,h2,h3,h4⟩:=zB1.1 hR
 have hcell:∀ j,j < 4→W4.cell? ⟨g',i * 4 + j,none⟩ = [Value.int .i64 ts[i].kind,.string ts[i].text,.int .i64 ts[i].cols,v][j]?:=fun j hj=>by
  rw [cell_of_row W4 g' (i * 4 + j) cs.toArray T (0,0) hg]
  have:=hc j hj
  simpa [zAb] using this
 have h0:=hcell 0 (by omega)
 rw [Nat.add_zero] at h0
 exact ⟨⟨h1,h2,h3⟩,v,⟨h0,hcell 1 (by omega),hcell 2 (by omega),hcell 3 (by omega)⟩,h4⟩
theorem DI.start (w:World) (e en:TypeId) (t:Tree) (A:Option Addr) (cap:Nat) (hv:zAa zAb w (Lt w.heap.size) t.kids (.slice A t.kids.length cap)) (hok:zAu t) (W0:World)
  (hW:W0 = ((w.alloc (.cells #[.int .i64 t.kind,.string t.text,.int .i64 t.cols,.slice A t.kids.length cap] en)).alloc (.cells #[.int .i64 0,.string ⟨#[]⟩,.int .i64 0,.slice none 0 0] en)).alloc (.cells #[.pointer (some ⟨w.heap.size,0,none⟩)] e)) :
  DI w W0 e en (.slice (some ⟨w.heap.size + 1 + 1,0,none⟩) 1 1) t [(w.heap.size,0,t)] [(w.heap.size,0,t)]:=by
 obtain ⟨W1,hW1⟩:∃ W1,W1 = w.alloc (.cells #[.int .i64 t.kind,.string t.text,.int .i64 t.cols,.slice A t.kids.length cap] en):=⟨_,rfl⟩
 obtain ⟨W2,hW2⟩:∃ W2,W2 = W1.alloc (.cells #[.int .i64 0,.string ⟨#[]⟩,.int .i64 0,.slice none 0 0] en):=⟨_,rfl⟩
 rw [← hW1,← hW2] at hW
 have s1:W1.heap.size = w.heap.size + 1:=by rw [hW1];simp
 have s2:W2.heap.size = w.heap.size + 1 + 1:=by rw [hW2];simp [s1]
 have s0:W0.heap.size = w.heap.size + 1 + 1 + 1:=by rw [hW];simp [s2]
 have h1:W1.heap[w.heap.size]? = some (.cells #[.int .i64 t.kind,.string t.text,.int .i64 t.cols,.slice A t.kids.length cap] en (0,0)):=by rw [hW1];exact heap_alloc_new w _
 have h2:W2.heap[w.heap.size + 1]? = some (.cells #[.int .i64 0,.string ⟨#[]⟩,.int .i64 0,.slice none 0 0] en (0,0)):=by rw [hW2,← s1];exact heap_alloc_new W1 _
 have h3:W0.heap[w.heap.size + 1 + 1]? = some (.cells #[.pointer (some ⟨w.heap.size,0,none⟩)] e (0,0)):=by rw [hW,← s2];exact heap_alloc_new W2 _
 have h1':W0.heap[w.heap.size]? = some (.cells #[.int .i64 t.kind,.string t.text,.int .i64 t.cols,.slice A t.kids.length cap] en (0,0)):=by
  rw [hW,Below.heap_alloc _ _ _ (by omega),hW2,Below.heap_alloc _ _ _ (by omega)];exact h1
 have h2':W0.heap[w.heap.size + 1]? = some (.cells #[.int .i64 0,.string ⟨#[]⟩,.int .i64 0,.slice none 0 0] en (0,0)):=by rw [hW,Below.heap_alloc _ _ _ (by omega)];exact h2
 have hb:Below w.heap.size w W0:=by rw [hW,hW2,hW1];exact (((Below.refl _ w).alloc (Nat.le_refl _) _).alloc (by simp) _).alloc (by simp;omega) _
 have hn:zDb W0 w.heap.size 0 t (.slice A t.kids.length cap):=by
  refine ⟨?_,?_,?_,?_⟩ <;> rw [cell_of_row W0 w.heap.size _ _ en (0,0) h1'] <;> rfl
 refine ⟨⟨rfl,.inr ⟨w.heap.size + 1 + 1,1,_,rfl,Nat.le_refl _,h3,Nat.le_refl _,by simp [maxLen],rfl,rfl⟩⟩,?_,by simp [addrs],.pend _ _ _ (List.mem_singleton_self _),hb,by omega,?_,h2'⟩
 ·intro x hx
  obtain rfl:=List.mem_singleton.1 hx
  exact ⟨⟨Nat.le_refl _,by simp;omega,by simp,by simp [Value.ownBlock];omega⟩,⟨0,rfl⟩,hok,_,hn,hv⟩
 ·intro x hx
  obtain rfl:=List.mem_singleton.1 hx
  simp [World.frozen?,h1']
theorem zEh {W:World} {q a:Addr} (v:Value) (h:q.block≠a.block):(W.setCell a v).cell? q = W.cell? q:=World.cell?_of_block (Below.heap_setCell W a v q.block h)
theorem zKe : ∀ P : List zCo, P.length ≤ pcnt P
  | [] => Nat.le_refl _
  | x :: P => by
    have h := zKe P
    have h2 := zAn x.2.2
    simp only [pcnt, List.length_cons]; omega
theorem zHh:(Tryz.prog.info? 24).map (·.size) = some 4:=by kernel_rfl
theorem zF5:∃ i,Tryz.prog.info? 24 = some i∧i.zero = some (.agg #[.int .i64 0,.string ⟨#[]⟩,.int .i64 0,.slice none 0 0])∧i.size = 4∧i.bytes = 56:=by
 have h:=zF6
 rw [Option.map_eq_some_iff] at h
 obtain ⟨i,h1,h2⟩:=h
 simp only [Prod.mk.injEq] at h2
 exact ⟨i,h1,h2.1,h2.2.1,h2.2.2⟩
theorem zJi {w wr WM:World} {xg xo n G c:Nat} {u:Value} {T:TypeId} {l cs:List Value} {ad:Addr} (hb:Below w.heap.size w wr) (hx1:w.heap.size≤xg) (hx2:xg < wr.heap.size) (n3:wr.cell? ⟨xg,xo + 3,none⟩ = some u) (hfz:wr.frozen? ⟨xg,xo + 3,none⟩ = false) (hG:G = wr.heap.size)
  (h1:WM.ownsRow (wr.setCell ⟨xg,xo + 3,none⟩ (.slice none 0 0)).heap.size T 4 (.slice (some ⟨(wr.setCell ⟨xg,xo + 3,none⟩ (.slice none 0 0)).heap.size,0,none⟩) n n) n l) (h2:(wr.setCell ⟨xg,xo + 3,none⟩ (.slice none 0 0)).grownBy WM none) (hcn:cs.length = n * 4) (had:ad.block < w.heap.size)
  (hrc:∀ j v,cs[j]? = some v→w.cell? (ad.add j) = some v) :
  WM.cell? ⟨xg,xo + 3,none⟩ = some (.slice none 0 0)∧WM.frozen? ⟨xg,xo + 3,none⟩ = false∧∃ cur:Array Value,Hid ((WM.setCell ⟨xg,xo + 3,none⟩ (.slice (some ⟨G,0,none⟩) n n)).heap[G]? = some (.cells cur T (0,0)))∧Hid (cur.size = cs.length) ∧
   Hid (∀ j v,cs[j]? = some v→(WM.setCell ⟨xg,xo + 3,none⟩ (.slice (some ⟨G,0,none⟩) n n)).cell? (ad.add j) = some v):=by
 subst hG
 have esz:(wr.setCell ⟨xg,xo + 3,none⟩ (.slice none 0 0)).heap.size = wr.heap.size:=by simp [World.setCell]
 have hxs:xg < (wr.setCell ⟨xg,xo + 3,none⟩ (.slice none 0 0)).heap.size:=by rw [esz];exact hx2
 refine ⟨h2.cell (World.cell?_setCell_same _ _ _ n3) (by simp),(World.frozen?_of_block (h2.block xg hxs (by simp))).trans ((World.frozen?_setCell _ _ _ _).trans hfz),?_⟩
 have HSR:∀ j v,cs[j]? = some v→(WM.setCell ⟨xg,xo + 3,none⟩ (.slice (some ⟨wr.heap.size,0,none⟩) n n)).cell? (ad.add j) = some v:=by
  intro j v hj
  have hab:(ad.add j).block = ad.block:=by unfold Addr.add;split <;> rfl
  have hne:(ad.add j).block≠xg:=by rw [hab];omega
  rw [zEh _ hne]
  refine h2.cell ?_ (by simp)
  rw [zEh _ hne]
  rw [World.cell?_of_block (hb.block _ (by rw [hab];exact had))]
  exact hrc j v hj
 rcases h1.2 with ⟨h,_⟩ | ⟨g0,c0,cur,e1,k2,k3,k4,k5,k6,k7⟩
 ·cases h
 ·injection e1 with h8 h9 h10
  injection h8 with h8
  injection h8 with h8
  subst h8
  subst h10
  rw [esz] at k3
  exact ⟨cur,(Below.heap_setCell WM _ _ _ (by exact Ne.symm (Nat.ne_of_lt hx2))).trans k3,k6.trans hcn.symm,HSR⟩
theorem DI.copied {w wr WM W4:World} {e en:TypeId} {lv lv':Value} {t:Tree} {Q:List zCo} {xg xo c1:Nat} {xt:Tree} {u:Value} {cs:List Value} {cur:Array Value} (hd:DI w wr e en lv t (Q ++ [(xg,xo,xt)]) (Q ++ [(xg,xo,xt)]))
  (hs:zG4 wr (w.heap.size + 2) e lv' Q) (hown:lv'.ownBlock = lv.ownBlock) (n3:wr.cell? ⟨xg,xo + 3,none⟩ = some u) (h2:(wr.setCell ⟨xg,xo + 3,none⟩ (.slice none 0 0)).grownBy WM none) (hz:0 < xt.kids.length) (hk:xt.kids.length≤1000000) (hlt:wr.heap.size < WM.heap.size)
  (hc:(WM.setCell ⟨xg,xo + 3,none⟩ (.slice (some ⟨wr.heap.size,0,none⟩) xt.kids.length xt.kids.length)).heap[wr.heap.size]? = some (.cells cur en (0,0))) (hl:zAw zAb w (Lt w.heap.size) xt.kids cs)
  (hW:W4 = (WM.setCell ⟨xg,xo + 3,none⟩ (.slice (some ⟨wr.heap.size,0,none⟩) xt.kids.length xt.kids.length)).setRow wr.heap.size cs.toArray) :
  W4.cell? ⟨xg,xo + 3,none⟩ = some (.slice (some ⟨wr.heap.size,0,none⟩) xt.kids.length xt.kids.length)∧DI w W4 e en lv' t Q (Q ++ zCl wr.heap.size xt.kids):=by
 obtain ⟨⟨hx1,hx2,hx3,hx4⟩,hal,hxok,v,hn,hxv⟩:=hd.pend (xg,xo,xt) (by simp)
 dsimp only at hx1 hx2 hx3 hx4
 have esz:(wr.setCell ⟨xg,xo + 3,none⟩ (.slice none 0 0)).heap.size = wr.heap.size:=by simp [World.setCell]
 have m3:WM.cell? ⟨xg,xo + 3,none⟩ = some (.slice none 0 0):=h2.cell (World.cell?_setCell_same _ _ _ n3) (by simp)
 have hG:=setRow_heap _ _ cur cs.toArray _ _ hc
 rw [← hW] at hG
 have c4:W4.cell? ⟨xg,xo + 3,none⟩ = some (.slice (some ⟨wr.heap.size,0,none⟩) xt.kids.length xt.kids.length):=by
  rw [hW,cell_setRow_other _ _ _ _ (by exact Nat.ne_of_lt hx2)]
  exact World.cell?_setCell_same _ _ _ m3
 have hblk:∀ k,k < wr.heap.size→k≠xg→W4.heap[k]? = wr.heap[k]?:=fun k hk hne=>by
  rw [hW,setRow_other _ _ _ _ (Nat.ne_of_lt hk),Below.heap_setCell WM _ _ k (by exact hne),h2.block k (by rw [esz];exact hk) (by simp),Below.heap_setCell wr _ _ k (by exact hne)]
 refine ⟨c4,hd.node (g':=wr.heap.size) (cap':=xt.kids.length) (A':=some ⟨wr.heap.size,0,none⟩) (fun q hq hne=>?_) ?_ hown ?_ ?_ (fun q hq=>?_) (fun _ o=>?_) (hblk _ (by have:=hd.box;omega) (by exact Ne.symm hx3)) c4 (Nat.le_refl _) (by simp [maxLen];omega) (Nat.le_refl _) (fun _=>⟨rfl,(Array.getElem?_eq_some_iff.1 hG).1⟩) (fun i hi=>zMb hG hl i hi)⟩
 ·rw [hW,cell_setRow_other _ _ _ _ (Nat.ne_of_lt hq),World.cell?_setCell_other _ _ _ _ (Ne.symm hne),World.cell?_of_block (h2.block _ (by rw [esz];exact hq) (by simp)),World.cell?_setCell_other _ _ _ _ (Ne.symm hne)]
 ·obtain ⟨hq1,hq2⟩:=hs
  refine ⟨hq1,?_⟩
  rcases hq2 with h | ⟨g,cap,curs,rfl,h3,h4,h5⟩
  ·exact .inl h
  ·refine .inr ⟨g,cap,curs,rfl,h3,?_,h5⟩
   rw [hblk g (Array.getElem?_eq_some_iff.1 h4).1 (fun e=>hx4 (by rw [← hown,← e];rfl))]
   exact h4
 ·rw [hW]
  exact below_setRow (((hd.below.setCell (p:=⟨xg,xo + 3,none⟩) hx1 _).grown h2 (by rw [esz];have:=hd.box;omega) (fun k e=>by cases e)).setCell (p:=⟨xg,xo + 3,none⟩) hx1 _) (by have:=hd.box;omega) _
 ·rw [hW];simp [World.setCell];omega
 ·rw [hW,World.frozen?_of_block (setRow_other _ _ _ _ (Nat.ne_of_lt hq)),World.frozen?_setCell,World.frozen?_of_block (h2.block _ (by rw [esz];exact hq) (by simp)),World.frozen?_setCell]
 ·simp [World.frozen?,hG]
theorem DI.alloc {w wr:World} {e en:TypeId} {lv:Value} {t:Tree} {SL PL:List zCo} (hd:DI w wr e en lv t SL PL) (o:Obj):DI w (wr.alloc o) e en lv t SL PL :=
 hd.push (World.ownsRow.alloc hd.stack o) (World.grownBy_alloc wr o _) (fun k h=>.inl h)
theorem zOt {g:Nat} {ts:List Tree} {Q:List zCo} {j:Nat} (h:j < ts.length):Q ++ (zCl g ts).take (j + 1) = (Q ++ (zCl g ts).take j) ++ [(g,j * 4,ts[j])]:=by
 have h2:=zF9 g ts 0 j h
 rw [Nat.zero_add] at h2
 have h3:(zCl g ts).take (j + 1) = (zCl g ts).take j ++ [(g,j * 4,ts[j])]:=by
  rw [List.take_add_one,zCl,h2];rfl
 rw [h3,List.append_assoc]
theorem zE6 (g:Nat) (ts:List Tree):(zCl g ts).length = ts.length:=zH2 g ts 0
theorem DI.pushed {w wr w':World} {e en:TypeId} {lv v':Value} {t:Tree} {Q PL:List zCo} {g j:Nat} {ts:List Tree} {o:Obj} (hd:DI w wr e en lv t (Q ++ (zCl g ts).take j) PL) (hj:j < ts.length) {n:Nat} (hn:n = Q.length + j)
  (hs:w'.ownsRow (w.heap.size + 2) e 1 v' (n + 1) ((Q ++ (zCl g ts).take j).map ptrV ++ [.pointer (some ⟨g,j * 4,none⟩)])) (hg:(wr.alloc o).grownBy w' lv.ownBlock) (hv:v'.ownBlock = lv.ownBlock∨v'.ownBlock = some (wr.alloc o).heap.size) :
  DI w w' e en v' t (Q ++ (zCl g ts).take (j + 1)) PL:=by
 refine (hd.alloc o).push ?_ hg (fun k hk=>?_)
 ·unfold zG4
  have h2:=zE6 g ts
  rw [zOt hj]
  have e1:((Q ++ (zCl g ts).take j) ++ [(g,j * 4,ts[j])]).length = n + 1:=by simp [h2];omega
  rw [e1,List.map_append]
  exact hs
 ·rcases hv with h | h
  ·exact .inl (h ▸ hk)
  ·rw [hk] at h;injection h with h;right;omega
def CopyRes (w:World) (t:Tree) (e:Ending) (w':World):Prop :=
 ∃ v,e = .returned (.agg #[.int .i64 t.kind,.string t.text,.int .i64 t.cols,v])∧zAa zAb w' (fun k=>w.heap.size≤k∧k < w'.heap.size) t.kids v∧Below w.heap.size w w'
theorem zA7 (t:Tree):zAe t = 1 + zAd t.kids:=by cases t;rfl
theorem zP1:(Tryz.prog.info? 122).map (fun i=>(i.zero,i.size,i.bytes)) = some (some (.pointer none),1,8):=by kernel_rfl
theorem zGu {w:World} {a:Addr} {v:Value} (h:w.cell? a = some v):a.block < w.heap.size:=by
 rcases Nat.lt_or_ge a.block w.heap.size with h1 | h1
 ·exact h1
 ·simp [World.cell?,Array.getElem?_eq_none h1] at h
theorem zLg (w:World) (x:Value) (e:TypeId) (g:Nat) (hg:g = w.heap.size):zBk (w.alloc (.cells #[x] e)) (fun _=>True) (some ⟨g,0,none⟩) [x]:=fun _=>⟨g,0,rfl,trivial,fun j u hu=>by
 subst hg
 rw [Nat.zero_add,World.cell?_alloc_new]
 simpa using hu⟩
theorem zHu {wr w':World} {o:Obj} {row:Option Nat} {a:Addr} {v:Value} (h4:(wr.alloc o).grownBy w' row) (hc:wr.cell? a = some v) (hx:some a.block≠row):w'.cell? a = some v :=
 (World.cell?_of_block (h4.block a.block (by have:=zGu hc;simp;omega) hx)).trans (((zAl wr o).cell (zGu hc)).trans hc)
theorem zJc {wr:World} {o:Obj} {v v':Value} {a:Addr} {u:Value} (h5:v'.ownBlock = v.ownBlock∨v'.ownBlock = some (wr.alloc o).heap.size) (hc:wr.cell? a = some u) (hx:some a.block≠v.ownBlock):some a.block≠v'.ownBlock:=by
 rcases h5 with h | h
 ·rw [h];exact hx
 ·rw [h];intro e;injection e with e;have:=zGu hc;simp at e;omega
set_option maxHeartbeats 2000000 in
theorem zDq (t : Tree) (A : Option Addr) (cap : Nat) (w : World) (hv : zAa zAb w (Lt w.heap.size) t.kids (.slice A t.kids.length cap)) (hok : zAu t) (hct : zAe t ≤ 1000000) :
    Calls Tryz.prog 51 #[.agg #[.int .i64 t.kind, .string t.text, .int .i64 t.cols, .slice A t.kids.length cap]] w (CopyRes w t) := by
  have HS := hid (DI.start w 122 24 t A cap hv hok _ rfl)
  have HCT := hid hct
  clear hv hok hct
  go_enter Tryz.func51, Tryz.ntmps51
  go_wp2_with fail
  generalize (((w.alloc (.cells #[.int .i64 t.kind, .string t.text, .int .i64 t.cols, .slice A t.kids.length cap] 24)).alloc (.cells #[.int .i64 0, .string ⟨#[]⟩, .int .i64 0, .slice none 0 0] 24)).alloc (.cells #[.pointer (some ⟨w.heap.size, 0, none⟩)] 122)) = W0 at *
  go_loopg [3] (zAe t) (fun k lv0 wr => ∃ (lv : Value) (P : List zCo), lv = lv0 ∧ DI w wr 122 24 lv t P P ∧ pcnt P = k ∧ k ≤ 1000000)
  case atStart => exact ⟨_, _, rfl, HS.out, by simp [pcnt], HCT.out⟩
  case round =>
    obtain ⟨lv, P, rfl, hd, hk, hkm⟩ := hrel
    rcases List.eq_nil_or_concat P with rfl | ⟨Q, x, rfl⟩
    · obtain ⟨v, hn, hr⟩ := hd.result
      obtain ⟨A1, c1, rfl⟩ := hr.form
      have hlv : ∃ B1 d1, lv = .slice B1 0 d1 := by
        rcases hd.stack.2 with ⟨rfl, _⟩ | ⟨g, cap, cur, rfl, _⟩
        · exact ⟨_, _, rfl⟩
        · exact ⟨_, _, rfl⟩
      obtain ⟨B1, d1, rfl⟩ := hlv
      obtain ⟨n0, n1, n2, n3⟩ := hn
      simp only [Nat.zero_add] at n1 n2 n3
      have hres := hd.res
      have hlt : w.heap.size + 1 < wr.heap.size := by have := hd.box; omega
      have HB := hid hd.below
      have HR := hid hr
      have r0 : wr.cell? ⟨w.heap.size + 1, 0, none⟩ = some (.int .i64 0) ∧ wr.frozen? ⟨w.heap.size + 1, 0, none⟩ = false := by constructor <;> simp [World.cell?, World.frozen?, hres]
      have r1 : wr.cell? ⟨w.heap.size + 1, 1, none⟩ = some (.string ⟨#[]⟩) ∧ wr.frozen? ⟨w.heap.size + 1, 1, none⟩ = false := by constructor <;> simp [World.cell?, World.frozen?, hres]
      have r2 : wr.cell? ⟨w.heap.size + 1, 2, none⟩ = some (.int .i64 0) ∧ wr.frozen? ⟨w.heap.size + 1, 2, none⟩ = false := by constructor <;> simp [World.cell?, World.frozen?, hres]
      have r3 : wr.cell? ⟨w.heap.size + 1, 3, none⟩ = some (.slice none 0 0) ∧ wr.frozen? ⟨w.heap.size + 1, 3, none⟩ = false := by constructor <;> simp [World.cell?, World.frozen?, hres]
      obtain ⟨r0, f0⟩ := r0
      obtain ⟨r1, f1⟩ := r1
      obtain ⟨r2, f2⟩ := r2
      obtain ⟨r3, f3⟩ := r3
      clear hd hres hr hk
      go_wp2_with fail
      have q0 : ((((wr.setCell ⟨w.heap.size + 1, 0, none⟩ (.int .i64 t.kind)).setCell ⟨w.heap.size + 1, 1, none⟩ (.string t.text)).setCell ⟨w.heap.size + 1, 2, none⟩ (.int .i64 t.cols)).setCell ⟨w.heap.size + 1, 3, none⟩ (.slice A1 t.kids.length c1)).cell? ⟨w.heap.size + 1, 0, none⟩ = some (.int .i64 t.kind) := by go_simp
      have q1 : ((((wr.setCell ⟨w.heap.size + 1, 0, none⟩ (.int .i64 t.kind)).setCell ⟨w.heap.size + 1, 1, none⟩ (.string t.text)).setCell ⟨w.heap.size + 1, 2, none⟩ (.int .i64 t.cols)).setCell ⟨w.heap.size + 1, 3, none⟩ (.slice A1 t.kids.length c1)).cell? ⟨w.heap.size + 1, 1, none⟩ = some (.string t.text) := by go_simp
      have q2 : ((((wr.setCell ⟨w.heap.size + 1, 0, none⟩ (.int .i64 t.kind)).setCell ⟨w.heap.size + 1, 1, none⟩ (.string t.text)).setCell ⟨w.heap.size + 1, 2, none⟩ (.int .i64 t.cols)).setCell ⟨w.heap.size + 1, 3, none⟩ (.slice A1 t.kids.length c1)).cell? ⟨w.heap.size + 1, 2, none⟩ = some (.int .i64 t.cols) := by go_simp
      have q3 : ((((wr.setCell ⟨w.heap.size + 1, 0, none⟩ (.int .i64 t.kind)).setCell ⟨w.heap.size + 1, 1, none⟩ (.string t.text)).setCell ⟨w.heap.size + 1, 2, none⟩ (.int .i64 t.cols)).setCell ⟨w.heap.size + 1, 3, none⟩ (.slice A1 t.kids.length c1)).cell? ⟨w.heap.size + 1, 3, none⟩ = some (.slice A1 t.kids.length c1) := by go_simp
      have hb4 := (((HB.out.setCell (p := ⟨w.heap.size + 1, 0, none⟩) (Nat.le_succ _) (.int .i64 t.kind)).setCell (p := ⟨w.heap.size + 1, 1, none⟩) (Nat.le_succ _) (.string t.text)).setCell (p := ⟨w.heap.size + 1, 2, none⟩) (Nat.le_succ _) (.int .i64 t.cols)).setCell (p := ⟨w.heap.size + 1, 3, none⟩) (Nat.le_succ _) (.slice A1 t.kids.length c1)
      have hr4 : zAa zAb ((((wr.setCell ⟨w.heap.size + 1, 0, none⟩ (.int .i64 t.kind)).setCell ⟨w.heap.size + 1, 1, none⟩ (.string t.text)).setCell ⟨w.heap.size + 1, 2, none⟩ (.int .i64 t.cols)).setCell ⟨w.heap.size + 1, 3, none⟩ (.slice A1 t.kids.length c1)) (fun k => w.heap.size ≤ k ∧ k < ((((wr.setCell ⟨w.heap.size + 1, 0, none⟩ (.int .i64 t.kind)).setCell ⟨w.heap.size + 1, 1, none⟩ (.string t.text)).setCell ⟨w.heap.size + 1, 2, none⟩ (.int .i64 t.cols)).setCell ⟨w.heap.size + 1, 3, none⟩ (.slice A1 t.kids.length c1)).heap.size) t.kids (.slice A1 t.kids.length c1) :=
        zAa.keep HR.out (fun q hq => by rw [zEh _ hq.2.2.1, zEh _ hq.2.2.1, zEh _ hq.2.2.1, zEh _ hq.2.2.1]) (fun k hk => ⟨hk.1, by have := hk.2.1; simpa [World.setCell] using this⟩)
      generalize ((((wr.setCell ⟨w.heap.size + 1, 0, none⟩ (.int .i64 t.kind)).setCell ⟨w.heap.size + 1, 1, none⟩ (.string t.text)).setCell ⟨w.heap.size + 1, 2, none⟩ (.int .i64 t.cols)).setCell ⟨w.heap.size + 1, 3, none⟩ (.slice A1 t.kids.length c1)) = W5 at *
      exact bodyPost_ret (v := .agg #[.int .i64 t.kind, .string t.text, .int .i64 t.cols, .slice A1 t.kids.length c1]) (by simp [results, Tryz.results51, go_sem, q0, q1, q2, q3]) rfl ⟨_, rfl, hr4, hb4⟩
    · rw [List.concat_eq_append] at hd hk
      obtain ⟨g, cp, rfl, hg1, hg2, hcp1, hcp2, hct, hst⟩ := hd.stack.top
      have hfz := hd.frz x (by simp)
      have hx := hd.pend x (by simp)
      obtain ⟨xg, xo, xt⟩ := x
      obtain ⟨⟨hx1, hx2, hx3, hx4⟩, hal, hxok, v, ⟨n0, n1, n2, n3⟩, hxv⟩ := hx
      dsimp only [ptrV] at hfz hx1 hx2 hx3 hx4 hal hxok n0 n1 n2 n3 hxv hct
      obtain ⟨A1, c1, rfl⟩ := hxv.form
      have hlen : Q.length ≤ 1000000 := by have := zKe (Q ++ [(xg, xo, xt)]); simp at this; omega
      have hkl : xt.kids.length ≤ 1000000 := by
        have h1 := zAn xt
        rw [zDe] at hk
        simp only [pcnt] at hk
        omega
      have HD := hid hd
      have HST := hid hst
      have HXV := hid hxv
      have HK := hid hk
      have HAL := hid hal
      have HOK := hid hxok
      have HX4 := hid hx4
      clear hd hst hxv hk hal hxok hx4
      have i0 : (0 : Int) ≤ (Q.length : Int) := by omega
      have i1 : (Q.length : Int) < (Q.length : Int) + 1 := by omega
      have i2 : (Q.length : Int) ≤ (cp : Int) := by omega
      have i3 : decide ((0 : Int) < (Q.length : Int) + 1) = true := by rw [decide_eq_true_eq]; omega
      rcases Nat.eq_zero_or_pos xt.kids.length with hz | hz
      · have hz' := hid hz
        rw [hz] at n3
        go_wp2_with (refine zEy rfl (.tmp 41) (.tmp 42) 22 rfl 24 4 Tryz.underlying22 zHh A1 c1 0 rfl rfl ?_)
        go_loop [3, 49] (fun l i => l = .slice (some ⟨g, 0, none⟩) Q.length cp ∧ i = .int .i64 0) (fun _ _ => 0)
        case atStart => exact ⟨rfl, rfl⟩
        case round =>
          obtain ⟨rfl, rfl⟩ := hrel
          have hkz : xt.kids = [] := List.eq_nil_of_length_eq_zero hz'.out
          have hpk : pcnt Q < gk := by have := HK.out; rw [zDe] at this; simp only [pcnt] at this; have := zAn xt; omega
          go_wp2_with fail
          go_roundg (pcnt Q)
          case measure => exact hpk
          case rel =>
            refine ⟨_, Q, rfl, ?_, rfl, by omega⟩
            have h := HD.out.node (W4 := wr.setCell ⟨xg, xo + 3, none⟩ (.slice none 0 0)) (lv' := .slice (some ⟨g, 0, none⟩) Q.length cp) (g' := wr.heap.size) (cap' := 0) (A' := none) (fun q _ hne => World.cell?_setCell_other _ _ _ _ (Ne.symm hne)) (ownsRow_setCell_other HST.out (by intro e; exact HX4.out e.symm) _) rfl (HD.out.below.setCell hx1 _) (by simp [World.setCell]) (fun q _ => World.frozen?_setCell _ _ _ _) (by rw [hkz]; exact fun h => absurd h (Nat.lt_irrefl 0)) (Below.heap_setCell wr _ _ _ (by exact Ne.symm hx3)) (by rw [hkz]; exact World.cell?_setCell_same _ _ _ n3) (by rw [hkz]; exact Nat.le_refl _) (Nat.zero_le _) (Nat.le_refl _) (by rw [hkz]; exact fun h => absurd h (Nat.lt_irrefl 0)) (by rw [hkz]; exact fun i hi => absurd hi (Nat.not_lt_zero _))
            rw [hkz] at h
            simpa [zCl, zE1] using h
      · obtain ⟨A2, c2, cs, e2, hcc1, hcc2, hrd, hls⟩ := HXV.out
        injection e2 with e3 e4 e5
        subst e3
        subst e5
        have hcn : cs.length = xt.kids.length * 4 := by have := hls.len; simpa [zAb, Nat.mul_comm] using this
        obtain ⟨ad, rfl⟩ := hrd.some_ (by omega)
        have hadl : ad.block < w.heap.size := by
          obtain ⟨g0, o0, h1, h2, _⟩ := hrd (by omega)
          cases h1; exact h2
        have hrc := hid (hrd.add ad rfl)
        have HLS := hid hls
        have h1c := hid hls.one
        have hcn' := hid hcn
        have hz2 := hid hz
        have i4 : decide ((0 : Int) < (xt.kids.length : Int)) = true := by rw [decide_eq_true_eq]; omega
        obtain ⟨ni, ni1, ni2, ni3, ni4⟩ := zF5
        clear hrd hls hcn hz
        go_wp2_with first
          | (refine wpList_make_full _ rfl (.tmp 34) (.tmp 34) 22 rfl (wr.setCell ⟨xg, xo + 3, none⟩ (.slice none 0 0)).heap.size 24 ni _ 4 Tryz.underlying22 ni1 ni2 ni3 .i64 .i64 _ _ xt.kids.length rfl rfl rfl rfl (by rw [ni4]; omega) (by simp [maxLen]; omega) (Nat.le_refl _) ?_
             intro WM hWM1 hWM2
             obtain ⟨m3, mf, cur, HCUR, HCS, HSR⟩ := zJi (c := 0) HD.out.below hx1 hx2 n3 hfz rfl hWM1 hWM2 hcn'.out hadl hrc.out
             have HM1 := hid hWM1
             have HM2 := hid hWM2
             have HLT : Hid (wr.heap.size < WM.heap.size) := by
               rcases HM1.out.2 with ⟨h, _⟩ | ⟨g0, c0, cur, e1, k2, k3, k4⟩
               · cases h
               · have h9 := (Array.getElem?_eq_some_iff.1 k3).1
                 have h8 : (wr.setCell ⟨xg, xo + 3, none⟩ (.slice none 0 0)).heap.size = wr.heap.size := by simp [World.setCell]
                 show wr.heap.size < WM.heap.size
                 omega
             clear hWM1 hWM2)
          | (refine zE3 rfl (.tmp 41) (.tmp 42) 22 rfl 24 4 Tryz.underlying22 zHh wr.heap.size xt.kids.length ad c1 rfl rfl cur 24 cs HCUR.out hcn'.out HSR.out HCS.out h1c.out ?_
             obtain ⟨W4, hW4⟩ : ∃ W4, W4 = (WM.setCell ⟨xg, xo + 3, none⟩ (.slice (some ⟨wr.heap.size, 0, none⟩) xt.kids.length xt.kids.length)).setRow wr.heap.size cs.toArray := ⟨_, rfl⟩
             rw [← hW4]
             obtain ⟨c4, hd4⟩ := HD.out.copied (c1 := 0) (lv' := .slice (some ⟨g, 0, none⟩) Q.length cp) HST.out rfl n3 HM2.out hz2.out hkl HLT.out HCUR.out HLS.out hW4
             have HD4 := hid hd4
             clear hW4 hd4)
        have HX4' := hid (show some xg ≠ (Value.slice (some ⟨g, 0, none⟩) Q.length cp).ownBlock from HX4.out)
        clear HD HM1 HM2 HLT HCUR HCS HSR HST m3 mf n0 n1 n2 hx2 hrc
        generalize wr.heap.size = G at *
        go_loopw [3, 49] (fun l i wr2 => ∃ j : Nat, j ≤ xt.kids.length ∧ i = .int .i64 j ∧ DI w wr2 122 24 l t (Q ++ (zCl G xt.kids).take j) (Q ++ zCl G xt.kids) ∧ wr2.cell? ⟨xg, xo + 3, none⟩ = some (.slice (some ⟨G, 0, none⟩) xt.kids.length xt.kids.length) ∧ some xg ≠ l.ownBlock) (fun _ i _ => xt.kids.length - (intOf i).toNat)
        case atStart => exact ⟨0, Nat.zero_le _, rfl, by simpa using HD4.out, c4, HX4'.out⟩
        case round =>
          obtain ⟨j, hj, rfl, hdj, cj, hxo⟩ := hrel
          have HDJ := hid hdj
          have HXO := hid hxo
          rcases Nat.lt_or_ge j xt.kids.length with hlt | hge
          · have i5 : decide ((j : Int) < (xt.kids.length : Int)) = true := by rw [decide_eq_true_eq]; omega
            have i6 : (0 : Int) ≤ (j : Int) := by omega
            have i7 : (j : Int) < (xt.kids.length : Int) := by omega
            have HLT := hid hlt
            have hsl := hid (World.ownsRow.alloc hdj.stack (.cells #[.pointer (some ⟨G, j * 4, none⟩)] 122))
            rw [show (Q ++ (zCl G xt.kids).take j).length = Q.length + j by simp [zE6]; omega] at hsl
            obtain ⟨pi, pi1, pi2, pi3, pi4⟩ := info_parts zP1
            clear hdj hlt hxo
            go_wp2_with first
              | (refine zBj _ rfl (.tmp 52) (.tmp 59) 123 rfl (w.heap.size + 2) 122 pi _ 1 8 Tryz.underlying123 pi1 pi2 pi3 pi4 rfl (Nat.succ_pos 0) _ (Q.length + j) _ rfl hsl.out (fun _ => True) _ 1 1 [.pointer (some ⟨G, j * 4, none⟩)] rfl rfl (zLg _ _ _ _ rfl) (by intro u hu; simp at hu; subst hu; rfl) (by unfold maxLen; omega) (by omega) (by have := HDJ.out.box; simp; omega) ?_
                 intro v' w' h3 h4 h5
                 have HP := hid (DI.pushed HDJ.out HLT.out rfl h3 h4 h5)
                 have HXC := hid (zHu h4 cj HXO.out)
                 have HXN := hid (zJc h5 cj HXO.out)
                 clear h3 h4 h5)
            go_roundw
            case rel => exact ⟨j + 1, by omega, by go_num, HP.out, HXC.out, HXN.out⟩
            case measure => simp [intOf]; omega
          · obtain rfl : j = xt.kids.length := by omega
            have i5 : decide ((xt.kids.length : Int) < (xt.kids.length : Int)) = false := by rw [decide_eq_false_iff_not]; omega
            clear hdj
            go_wp2_with fail
            have hpc : pcnt (Q ++ zCl G xt.kids) < gk := by
              have h1 := HK.out
              rw [zDe] at h1 ⊢
              rw [zCl, zH3]
              simp only [pcnt] at h1
              rw [zA7] at h1
              omega
            go_roundg (pcnt (Q ++ zCl G xt.kids))
            case measure => exact hpc
            case rel =>
              refine ⟨_, Q ++ zCl G xt.kids, rfl, ?_, rfl, by omega⟩
              have h := HDJ.out
              rw [List.take_of_length_le (by rw [zE6]; exact Nat.le_refl _)] at h
              exact h
def zB5 (w:World) (b:Nat) (ts:List Tree) (v:Value):Prop:=∃ cs,w.ownsRow b 24 4 v ts.length cs∧zAw zAb w (zBt b w v) ts cs
theorem zB5.rows {w:World} {b:Nat} {ts:List Tree} {v:Value} (h:zB5 w b ts v):zAa zAb w (fun k=>b≤k∧k < w.heap.size) ts v:=by
 obtain ⟨cs,h1,h2⟩:=h
 exact zAa.of_own (E:=zAb) h1 (fun k hk=>⟨(h1.lt k hk).1,(h1.lt k hk).2⟩) (h2.keep (zCu _ _) (fun k hk=>⟨hk.1,hk.2.1⟩))
theorem zB5.nil (w:World) (b:Nat):zB5 w b [] (.slice none 0 0):=⟨[],World.ownsRow_nil _ _ _ _,rfl⟩
theorem zB5.below {w w':World} {b:Nat} {ts:List Tree} {v:Value} (h:zB5 w b ts v) (hb:Below w.heap.size w w'):zB5 w' b ts v:=by
 obtain ⟨cs,h1,h2⟩:=h
 exact ⟨cs,zFc _ h1 hb,h2.keep (S:=zBt b w v) (fun p hp=>hb.cell hp.2.1) (fun k hk=>⟨hk.1,Nat.lt_of_lt_of_le hk.2.1 hb.size,hk.2.2⟩)⟩
theorem zB5.own_lt {w:World} {b:Nat} {ts:List Tree} {v:Value} (h:zB5 w b ts v):∀ k,v.ownBlock = some k→b≤k∧k < w.heap.size:=by
 obtain ⟨cs,h1,_⟩:=h
 exact fun k hk=>h1.lt k hk
theorem zB5.form {w:World} {b:Nat} {ts:List Tree} {v:Value} (h:zB5 w b ts v):∃ A c,v = .slice A ts.length c:=h.rows.form
section
variable {w:World} {b:Nat} {xss yss:List Tree} {v:Value}
theorem zMi {w':World} {v':Value} {cs rs:List Value} (h1:w.ownsRow b 24 4 v xss.length cs) (h2:zAw zAb w (zBt b w v) xss cs) (hls:zAw zAb w (zBt b w v) yss rs)
  (h3:w'.ownsRow b 24 4 v' (xss.length + yss.length) (cs ++ rs)) (h4:w.grownBy w' v.ownBlock) (h5:v'.ownBlock = v.ownBlock∨v'.ownBlock = some w.heap.size):zB5 w' b (xss ++ yss) v':=by
 refine ⟨cs ++ rs,by rw [List.length_append];exact h3,?_⟩
 refine (h2.append hls).keep (S:=zBt b w v) (fun p hp=>World.cell?_of_block (h4.block p.block hp.2.1 hp.2.2)) (fun k hk=>⟨hk.1,Nat.lt_of_lt_of_le hk.2.1 h4.size,?_⟩)
 rcases h5 with h5 | h5
 ·rw [h5];exact hk.2.2
 ·rw [h5];intro e;injection e with e;have:=hk.2.1;omega
theorem app_trees {ops:Array Oper} {rest:List Oper} {o:Oper} {a:Act} {Q:Exit→Act→World→Prop} (hgd:o.guard = none) (s x:Operand)
  (ho:o.op = .call { callee:=.builtin .append,args:=#[s,x],argTypes:=#[22,22] })
  (b:Nat) (v:Value) (xss yss:List Tree) (hs:a.eval s = v) (hown:zB5 w b xss v) (A:Option Addr) (m c:Nat) (hx:a.eval x = .slice A m c) (hr:zAa zAb w (zBt b w v) yss (.slice A m c))
  (hbound:xss.length + yss.length≤1000000000) (hb:b≤w.heap.size)
  (h:∀ v' w',zB5 w' b (xss ++ yss) v'→Below b w w'→wpList Tryz.prog ops Q rest (a.put o.dst v') w'):wpList Tryz.prog ops Q (o :: rest) a w:=by
 obtain ⟨i0,hi0,hz0,hz1,hz2⟩:=zF5
 obtain ⟨A',cap',rs,e,h1,h2,hrd,hls⟩:=hr
 injection e with e1 e2 e3
 subst e1 e2 e3
 obtain ⟨cs,ho1,ho2⟩:=hown
 have hl:=hls.len
 refine zBj w hgd s x 22 ho b 24 i0 _ 4 56 Tryz.underlying22 hi0 hz0 hz1 hz2 rfl (by omega) v _ _ hs ho1 _ A _ c rs hx hl hrd hls.one (by simp only [maxLen];omega) (by omega) hb ?_
 intro v' w' h3 h4 h5
 exact h v' w' (zMi ho1 ho2 hls h3 h4 h5) (zBv _ ho1 h4 hb)
end
theorem tree_one {w2:World} {b b2:Nat} {t:Tree} {v u:Value} (hok:zAu t) (hu:zAa zAb w2 (fun k=>b2≤k∧k < w2.heap.size) t.kids u) (hb:b≤b2) (hv:∀ k,v.ownBlock = some k→k < b2) (h2:b2≤w2.heap.size) (g:Nat) (hg:g = w2.heap.size) (e:TypeId) :
  zAa zAb (w2.alloc (.cells #[.int .i64 t.kind,.string t.text,.int .i64 t.cols,u] e)) (zBt b (w2.alloc (.cells #[.int .i64 t.kind,.string t.text,.int .i64 t.cols,u] e)) v) [t] (.slice (some ⟨g,0,none⟩) 1 1):=by
 subst hg
 have hi:zAa zAb (w2.alloc (.cells #[.int .i64 t.kind,.string t.text,.int .i64 t.cols,u] e)) (zBt b (w2.alloc (.cells #[.int .i64 t.kind,.string t.text,.int .i64 t.cols,u] e)) v) t.kids u :=
  hu.keep (fun p hp=>(zAl _ _).cell hp.2) (fun k hk=>⟨Nat.le_trans hb hk.1,by simp;omega,fun e=>by have:=hv k e.symm;omega⟩)
 refine ⟨_,_,[.int .i64 t.kind,.string t.text,.int .i64 t.cols,u],rfl,Nat.le_refl _,by simp [maxLen],fun _=>⟨w2.heap.size,0,rfl,⟨by omega,by simp,fun e=>by have:=hv _ e.symm;omega⟩,fun j x hx=>?_⟩,zAw.single (E:=zAb) (zB1.2 ⟨u,rfl,hok.1,hok.2.1,hok.2.2,hi⟩)⟩
 rw [Nat.zero_add,World.cell?_alloc_new]
 simpa using hx
theorem zFu : (ts : List Tree) → (i : Nat) → (k : Tree) → (hi : i < ts.length) → zAd (ts.set i k) + zAe ts[i] = zAd ts + zAe k
  | t :: ts, 0, k, _ => by simp [zAd]; omega
  | t :: ts, i + 1, k, hi => by
    have := zFu ts i k (by simpa using hi)
    simp only [List.set_cons_succ, zAd, List.getElem_cons_succ]
    omega
theorem zEm (t:Tree) (i:Nat) (k:Tree) (X:Nat) (h:∀ hi:i < t.kids.length,zAe k≤zAe t.kids[i] + X):zAe (zCj t i k)≤zAe t + X:=by
 rw [zA7,zA7 t]
 show 1 + zAd (t.kids.set i k)≤_
 rcases Nat.lt_or_ge i t.kids.length with hi | hi
 ·have h1:=zFu t.kids i k hi
  have h2:=h hi
  omega
 ·rw [List.set_eq_of_length_le hi];omega
theorem zDj {t:Tree} {i:Int} (hi:i.toNat < t.kids.length):kidS t i = t.kids[i.toNat]:=by
 unfold kidS;rw [List.getD_eq_getElem?_getD,List.getElem?_eq_getElem hi];rfl
theorem zLd : (p : List Int) → (t : Tree) → (l : List Tree) → zAe (putS t p l) ≤ zAe t + (zAd l + 1)
  | [], t, l => by simp only [putS, rowT, zAe]; omega
  | [_], t, l => by simp only [putS, rowT, zAe]; omega
  | i :: k :: p, t, l => by
    rw [putS]
    refine zEm _ _ _ _ fun hi => ?_
    rw [zDj hi]
    refine zEm _ _ _ _ fun hk => ?_
    rw [zDj hk]
    exact zLd p _ l
theorem zD4 (ts:List Tree) (k:Nat):zAd (ts.drop k)≤zAd ts:=by
 have h:=zB8 (ts.take k) (ts.drop k)
 rw [List.take_append_drop] at h
 omega
theorem zDm (l:List Tree) (a b:Nat) (bs:List Tree):zAd (zAv l a b bs)≤2 * zAd l + zAd bs:=by
 unfold zAv
 rw [zB8,zB8]
 have h1:=zAo l a
 have h2:=zD4 l b
 omega
theorem zGq (l:List Tree) (a:Nat):zAe (l.getD a zAx)≤zAd l + 1:=by
 rw [List.getD_eq_getElem?_getD]
 rcases Nat.lt_or_ge a l.length with h | h
 ·rw [List.getElem?_eq_getElem h]
  have h1:=zBa h
  have h2:=zAo l (a + 1)
  show zAe l[a]≤_
  omega
 ·rw [List.getElem?_eq_none h]
  show zAe zAx≤_
  have:zAe zAx = 1:=rfl
  omega
theorem zQb (t:Tree) (i:Int):zAd (kidS t i).kids≤zAe t:=by
 have h:=zGq t.kids i.toNat
 have h2:=zA7 (t.kids.getD i.toNat zAx)
 have h3:=zA7 t
 show zAd (t.kids.getD i.toNat zAx).kids≤_
 omega
theorem zMa (l:List Tree) (op:OpD):zAd (zAi l op).1≤4 * zAd l + zAd op.nodes + 4:=by
 unfold zAi
 split
 ·exact Nat.zero_le _
 ·split
  ·have:=zDm l op.at_.toNat op.at_.toNat op.nodes
   show zAd (zAv _ _ _ _)≤_
   omega
  ·split
   ·split
    ·have:=zDm l op.at_.toNat (op.at_ + op.nodes.length).toNat []
     have h0:zAd ([]:List Tree) = 0:=rfl
     show zAd (zAv _ _ _ _)≤_
     omega
    ·exact Nat.zero_le _
   ·split
    ·have h1:=zDm l op.at_.toNat (op.at_ + op.n).toNat [zAr (op.nodes.headD zAx) op.slot.toNat ((l.take (op.at_ + op.n).toNat).drop op.at_.toNat)]
     have h2:zAe (zAr (op.nodes.headD zAx) op.slot.toNat ((l.take (op.at_ + op.n).toNat).drop op.at_.toNat))≤zAe (op.nodes.headD zAx) + (zAd l + 1):=by
      refine zEm _ _ _ _ fun hi=>?_
      have h3:=zD4 (l.take (op.at_ + op.n).toNat) op.at_.toNat
      have h4:=zAo l (op.at_ + op.n).toNat
      simp only [rowT,zAe]
      omega
     have h5:zAe (op.nodes.headD zAx)≤zAd op.nodes + 1:=by
      cases op.nodes with
      | nil=>exact Nat.le_refl _
      | cons x xs=>simp only [List.headD_cons,zAd];omega
     have h6:∀ x:Tree,zAd [x] = zAe x:=fun x=>rfl
     rw [h6] at h1
     show zAd (zAv _ _ _ _)≤_
     omega
    ·split
     ·split
      ·exact Nat.zero_le _
      ·have h1:=zDm l op.at_.toNat (op.at_ + 1).toNat (kidS (l.getD op.at_.toNat zAx) op.slot).kids
       have h2:=zQb (l.getD op.at_.toNat zAx) op.slot
       have h3:=zGq l op.at_.toNat
       show zAd (zAv _ _ _ _)≤_
       omega
     ·split
      ·have h1:=zDm l op.at_.toNat (op.at_ + 1).toNat [.mk (l.getD op.at_.toNat zAx).kind op.text (l.getD op.at_.toNat zAx).cols (l.getD op.at_.toNat zAx).kids]
       have h6:zAd [Tree.mk (l.getD op.at_.toNat zAx).kind op.text (l.getD op.at_.toNat zAx).cols (l.getD op.at_.toNat zAx).kids] = zAe (l.getD op.at_.toNat zAx):=by
        rw [zA7 (l.getD op.at_.toNat zAx)];rfl
       have h3:=zGq l op.at_.toNat
       rw [h6] at h1
       show zAd (zAv _ _ _ _)≤_
       omega
      ·exact Nat.zero_le _
theorem zO2 (t:Tree):1≤zAe t:=by rw [zA7];omega
theorem zCe : (t : Tree) → (p : List Int) → zAe (zAm t p).1 ≤ zAe t
  | t, [] => by simp [zAm]
  | t, [_] => by simp [zAm]
  | t, i :: k :: p => by
    have hz : zAe zAx ≤ zAe t := zO2 t
    rw [zAm]
    split
    · rename_i hi
      split
      · rename_i hk
        have h0 := zCe ((t.kids[i.toNat]'hi.2).kids[k.toNat]'hk.2) p
        have e1 : zAe t.kids[i.toNat] ≤ zAe t := by
          rw [zA7 t]
          have := zBa hi.2
          have := zAo t.kids (i.toNat + 1)
          omega
        have e2 : zAe t.kids[i.toNat].kids[k.toNat] ≤ zAe t.kids[i.toNat] := by
          rw [zA7 t.kids[i.toNat]]
          have := zBa hk.2
          have := zAo t.kids[i.toNat].kids (k.toNat + 1)
          omega
        omega
      · exact hz
    · exact hz
theorem zE5 (t:Tree) (p:List Int) {m:Nat} (h:zAe t≤m):zAd (zAg t p).1.kids≤m:=by
 have hz:zAd zAx.kids≤m:=Nat.zero_le _
 unfold zAg
 split
 ·exact hz
 ·split
  ·exact hz
  ·have h1:=zCe t p
   have h2:=zA7 (zAm t p).1
   show zAd (zAm t p).1.kids≤m
   omega
theorem zGx {t:Tree} {p:List Int} (hv:zAf t = true) (h:(zAg t p).2 = 0):(zAm t p).2 = true∧(zAg t p).1 = (zAm t p).1:=by
 unfold zAg at h ⊢
 rw [if_neg (by simp [hv])] at h ⊢
 split at h
 ·simp at h
 ·rename_i h1
  rw [if_neg h1]
  exact ⟨by simpa using h1,rfl⟩
theorem zA0 {t:Tree} (h:zAf t = true):zAe t≤1000∧t.kind = 1∧zB0 t = true∧zBc t≤24:=by
 unfold zAf at h
 simp only [Bool.and_eq_true,decide_eq_true_eq,beq_iff_eq] at h
 exact ⟨by omega,h.1.1.1,h.1.1.2,by omega⟩
theorem zPg (w:World) (A:Option Addr) (n c:Nat):Calls Tryz.prog 81 #[.slice A n c] w fun e w'=>e = .returned (.agg #[.int .i64 1,.string ⟨#[]⟩,.int .i64 0,.slice A n c])∧Below w.heap.size w w':=by
 go_enter Tryz.func81,Tryz.ntmps81
 go_wp2
 refine bodyPost_ret (v:=.agg #[.int .i64 1,.string ⟨#[]⟩,.int .i64 0,.slice A n c]) (by simp [results,Tryz.results81,go_sem]) rfl ⟨rfl,zNi _ _⟩
theorem zLf {w : World} {S : Nat → Prop} {ops : List OpD} {A : Option Addr} {cs : List Value} (h3 : zBk w S A cs) (h4 : zAw opE w S ops cs) {k : Nat} (hk : k < ops.length) :
    ∃ g o Ar An cr cn, A = some ⟨g, o, none⟩ ∧ S g ∧
      w.cell? ⟨g, o + k * 8, none⟩ = some (.int .i64 ops[k].kind) ∧ w.cell? ⟨g, o + k * 8 + 1, none⟩ = some (.slice Ar ops[k].row.length cr) ∧ w.cell? ⟨g, o + k * 8 + 2, none⟩ = some (.int .i64 ops[k].at_) ∧
      w.cell? ⟨g, o + k * 8 + 3, none⟩ = some (.int .i64 ops[k].n) ∧ w.cell? ⟨g, o + k * 8 + 4, none⟩ = some (.slice An ops[k].nodes.length cn) ∧ w.cell? ⟨g, o + k * 8 + 5, none⟩ = some (.int .i64 ops[k].slot) ∧
      w.cell? ⟨g, o + k * 8 + 6, none⟩ = some (.string ops[k].old) ∧ w.cell? ⟨g, o + k * 8 + 7, none⟩ = some (.string ops[k].text) ∧
      zAh w S ops[k].row (.slice Ar ops[k].row.length cr) ∧ zOc w S ops[k].nodes (.slice An ops[k].nodes.length cn) ∧ In64 ops[k].at_ ∧ In64 ops[k].n ∧ In64 ops[k].slot := by
  obtain ⟨g, o, c, e, hb, ⟨vr, vn, rfl, h1, h2, h3', h4', h5, h6, h7, h8⟩, hc⟩ := zFa h3 h4 hk
  obtain ⟨Ar, cr, rfl⟩ := h7.form
  obtain ⟨An, cn, rfl⟩ := h8.form
  exact ⟨g, o, Ar, An, cr, cn, e, hb, by simpa [opE] using hc 0 _ rfl, by simpa [opE] using hc 1 _ rfl, by simpa [opE] using hc 2 _ rfl, by simpa [opE] using hc 3 _ rfl, by simpa [opE] using hc 4 _ rfl,
    by simpa [opE] using hc 5 _ rfl, by simpa [opE] using hc 6 _ rfl, by simpa [opE] using hc 7 _ rfl, h7, h8, h2, h3', h4'⟩
theorem zEn (t:Tree) (i k:Int) (p:List Int):zAs t (i :: k :: p) = (decide (0≤i∧i.toNat < t.kids.length) && (decide (0≤k∧k.toNat < (kidS t i).kids.length) && zAs (kidS (kidS t i) k) p)):=by
 rw [zAs]
 split
 ·rename_i hi
  rw [zDj hi.2]
  split
  ·rename_i hk
   rw [zDj hk.2];simp [hi,hk]
  ·rename_i hk
   simp [hi,hk]
 ·rename_i hi
  simp [hi]
theorem zCs (t:Tree) (i k:Int) (p:List Int) (h:(zAm t (i :: k :: p)).2 = true):(0≤i∧i.toNat < t.kids.length)∧(0≤k∧k.toNat < (kidS t i).kids.length)∧zAm t (i :: k :: p) = zAm (kidS (kidS t i) k) p:=by
 rw [zAm] at h ⊢
 split at h
 ·rename_i hi
  split at h
  ·rename_i hk
   refine ⟨hi,⟨hk.1,by rw [zDj hi.2];exact hk.2⟩,?_⟩
   rw [dif_pos hi,dif_pos hk,zDj hi.2,zDj hk.2]
  ·cases h
 ·cases h
theorem zK7 (t:Tree) (i:Nat) (k:Tree):(zCj t i k).kids.length = t.kids.length:=List.length_set
theorem zI7 {t:Tree} {i:Int} {k:Tree} (hi:i.toNat < t.kids.length):kidS (zCj t i.toNat k) i = k:=by
 show (t.kids.set i.toNat k).getD i.toNat zAx = k
 rw [List.getD_eq_getElem?_getD,List.getElem?_set_self hi];rfl
theorem zJd : (p : List Int) → (t : Tree) → (q : List Int) → (zAm t p).2 = true → zAs t (p ++ q) = zAs (zAm t p).1 q
  | [], t, q, _ => rfl
  | [_], t, q, h => by simp [zAm] at h
  | i :: k :: p, t, q, h => by
    obtain ⟨hi, hk, he⟩ := zCs t i k p h
    rw [he] at h ⊢
    show zAs t (i :: k :: (p ++ q)) = _
    rw [zEn, zJd p _ q h]
    simp [hi, hk]
theorem zLe (t:Tree) (x:Int):zAs t [x] = decide (0≤x∧x≤t.kids.length):=by rw [zAs]
theorem zF3 : (q : List Int) → (t : Tree) → zAs t q = true → q.length % 2 = 1
  | [], t, h => by simp [zAs] at h
  | [x], t, h => rfl
  | i :: k :: p, t, h => by
    rw [zEn] at h
    simp only [Bool.and_eq_true] at h
    have := zF3 p _ h.2.2
    simp only [List.length_cons]; omega
theorem zId : (p : List Int) → (t : Tree) → (zAm t p).2 = true → p.length % 2 = 0
  | [], t, h => rfl
  | [x], t, h => by simp [zAm] at h
  | i :: k :: p, t, h => by
    obtain ⟨_, _, he⟩ := zCs t i k p h
    rw [he] at h
    have := zId p _ h
    simp only [List.length_cons]; omega
end Go.Proofs.YtbjcioknfjofkaaGreat
namespace Go.Proofs.YtbjcioknfjofkaaGreat
open Go Go.RowKit
def Grows {α:Type} (J:List α→World→Prop):Prop:=∀ s A B,J s A→Below A.heap.size A B→J s B
def SeqRd {α : Type} (P : Program) (g : Nat) (lb : Array Value) (enc : α → Value) (Rd : α → World → Prop) (Kp : World → World → Prop) (Gd : World → Prop) (S Sp : List α → Prop) (w : World) : Prop :=
  ∀ (l : Nat) (J Jx : List α → World → Prop) (W : World), Below w.heap.size w W → w.heap.size + 2 ≤ W.heap.size → Grows J → Grows Jx → (∀ s A, J s A → Gd A) →
    (∀ pre x W1, J pre W1 → Rd x W1 → Sp (pre ++ [x]) → YieldAt Fence.wide 0 P l #[enc x] W1 fun e W' =>
      (e = .returned (.bool true) ∧ J (pre ++ [x]) W' ∧ Kp W1 W') ∨ (e = .returned (.bool false) ∧ Jx (pre ++ [x]) W')) →
    J [] W →
    CallsIn Fence.wide 0 P g (#[.func (.yield l) #[] #[]] ++ lb) W fun e W' => (∃ v, e = .returned v) ∧ ((∃ xs, S xs ∧ J xs W') ∨ (∃ pre, Sp pre ∧ Jx pre W'))
theorem zHb {W W':World} (h:Below W.heap.size W W'):W.grownBy W' none:=⟨h.os,h.tape,h.output,h.size,fun k hk _=>h.block k hk⟩
theorem OwnFrom.grows {α:Type} {B:Nat} {I:List α→World→Prop} (h:OwnFrom B I):Grows I:=fun s A C hs hb=>h s A C none hs (zHb hb) (fun r e=>by cases e)
theorem zJz {P : Program} {α : Type} {g : Operand} {p : Tmp} {assign body : Code} {Q : Exit → Act → World → Prop} {a : Act} {w : World}
    {gf : Nat} {lb : Array Value} (hg : a.eval g = .func (.func gf) #[] lb) (eg : ∀ args w, (callFunc gf args).run P w = .ok (.enter gf args) w)
    {enc : α → Value} {Rd : α → World → Prop} {Kp : World → World → Prop} {Gd : World → Prop} {S Sp : List α → Prop} (hseq : SeqRd P gf lb enc Rd Kp Gd S Sp w)
    (hKt : ∀ A B C : World, Kp A B → Kp B C → Kp A C)
    (hKb : ∀ (W : World) (l : Nat) (o o' : Obj), w.heap.size ≤ l → l < w.heap.size + 2 → W.heap[l]? = some o → o.isCells = false → Kp W (W.putObj l o'))
    (hRd : ∀ x (W : World) (l : Nat) (o o' : Obj), w.heap.size ≤ l → l < w.heap.size + 2 → W.heap[l]? = some o → o.isCells = false → Rd x W → Rd x (W.putObj l o'))
    (I : List α → World → Prop) (Ix : Code → List α → World → Prop) (hI : OwnFrom w.heap.size I) (hGd : ∀ s A, I s A → w.heap.size + 2 ≤ A.heap.size → Gd A) (hIx : ∀ c, OwnFrom w.heap.size (Ix c)) (h0 : I [] w) (a₁ : α → Act)
    (hassign : ∀ (l : Nat) (x : α) (W : World) (K : Act → World → Prop), K (a₁ x) W →
      assign.wpIn (Fence.wide.inRound l) 0 P (Exit.then K (fun _ _ _ => False)) { tmps := a.tmps.setIfInBounds p (enc x), defers := [] } W)
    (hbody : ∀ (l : Nat) (pre : List α) (x : α) (W : World), I pre W → Rd x W → Sp (pre ++ [x]) → body.wpIn (Fence.wide.inRound l) 0 P (ownPostK Kp I Ix (pre ++ [x]) W) (a₁ x) W)
    (hdone : ∀ (D : Nat) (xs : List α) (W : World), w.heap.size ≤ D → S xs → I xs W → W.heap[D]? = some (.deferred (some [])) → Q .normal { a with defers := { target := .collected D, args := #[] } :: a.defers } W)
    (hstop : ∀ (D : Nat) (c : Code) (pre : List α) (W : World), w.heap.size ≤ D → Sp pre → Ix c pre W → W.heap[D]? = some (.deferred (some [])) → c.wpIn Fence.wide 0 P Q { a with defers := { target := .collected D, args := #[] } :: a.defers } W) :
    (Code.rangeFunc g #[p] assign body).wpIn Fence.wide 0 P Q a w := by
  refine wpIn_rangeFunc fun fn hfn => ?_
  show ∃ l mark w₁ d w₁' f args w₂, (Instr.enterLoop fn a.tmps #[p] assign body none).run P w = _ ∧ _
  obtain ⟨rec, hrec⟩ : ∃ rec : LoopState → Option Code → Loop, rec = fun st pe => { state := st, pending := pe, fn, tmps := a.tmps, params := #[p], assign, body, defers := w.heap.size } := ⟨_, rfl⟩
  obtain ⟨W1, hW1⟩ : ∃ W1, (w.alloc (.deferred (some []))).alloc (.loop (rec .ready none)) = W1 := ⟨_, rfl⟩
  have hl1 : W1.heap[w.heap.size + 1]? = some (.loop (rec .ready none)) := by
    rw [← hW1]; have := World.alloc_heap_new (w.alloc (.deferred (some []))) (.loop (rec .ready none)); rwa [World.size_alloc] at this
  have hd1 : W1.heap[w.heap.size]? = some (.deferred (some [])) := by
    rw [← hW1]; exact (Below.heap_alloc _ _ _ (by simp)).trans (World.alloc_heap_new w _)
  have hi1 : I [] W1 := by rw [← hW1]; exact hI.alloc _ (hI.alloc _ h0)
  have hb1 : Below w.heap.size w W1 := by rw [← hW1]; exact ((Below.refl _ w).alloc (Nat.le_refl _) _).alloc (by simp) _
  -- a block at a time: what the iterator's steps leave as it lay
  have kept : ∀ {A B : World} {k : Nat} {o : Obj}, Below A.heap.size A B → A.heap[k]? = some o → B.heap[k]? = some o := fun hb hk => (hb.block _ (Array.getElem?_eq_some_iff.1 hk).1).trans hk
  refine ⟨w.heap.size + 1, [{ target := .collected w.heap.size, args := #[] }], W1, { target := .fn (.func gf) lb, args := #[.func (.yield (w.heap.size + 1)) #[] #[]] }, W1, gf,
    #[.func (.yield (w.heap.size + 1)) #[] #[]] ++ lb, W1, ?_, ?_, fun _ _ => trivial, ?_, fun h => (by cases h), ?_⟩
  · rw [← hW1, hrec]; exact run_enterLoop_outer _ _ _ _ _
  · simp only [resolve, hg]
    simp [go_sem]
  · simp [invoke, go_sem, eg]
  · refine (hseq (w.heap.size + 1)
      (fun pre W => I pre W ∧ W.heap[w.heap.size + 1]? = some (.loop (rec .ready none)) ∧ W.heap[w.heap.size]? = some (.deferred (some [])))
      (fun pre W => ∃ c, Ix c pre W ∧ W.heap[w.heap.size + 1]? = some (.loop (rec .done (some c))) ∧ W.heap[w.heap.size]? = some (.deferred (some [])))
      W1 hb1 (by rw [← hW1]; simp)
      (fun s A B ⟨h, hl, hd⟩ hb => ⟨OwnFrom.grows hI s A B h hb, kept hb hl, kept hb hd⟩)
      (fun s A B ⟨c, h, hl, hd⟩ hb => ⟨c, OwnFrom.grows (hIx c) s A B h hb, kept hb hl, kept hb hd⟩)
      (fun s A ⟨h, hl, _⟩ => hGd s A h (by have := (Array.getElem?_eq_some_iff.1 hl).1; omega))
      ?_ ⟨hi1, hl1, hd1⟩).mono ?_
    · rintro pre x W ⟨hi, hl, hd⟩ hx hs
      have hlt : w.heap.size + 1 < W.heap.size := (Array.getElem?_eq_some_iff.1 hl).1
      have hy := run_yield (P := P) (args := #[enc x]) hl (by rw [hrec]; rfl)
      have hb := run_beginRound (P := P) hl (by rw [hrec])
      obtain ⟨W2, hW2⟩ : ∃ W2, W.putObj (w.heap.size + 1) (.loop { rec .ready none with state := .busy }) = W2 := ⟨_, rfl⟩
      have hl2 : W2.heap[w.heap.size + 1]? = some (.loop { rec .ready none with state := .busy }) := by rw [← hW2]; exact World.putObj_heap_same hlt
      have hd2 : W2.heap[w.heap.size]? = some (.deferred (some [])) := by rw [← hW2]; exact (World.putObj_heap_other (by omega)).trans hd
      have hk2 : Kp W W2 := by rw [← hW2]; exact hKb _ _ _ _ (by omega) (by omega) hl rfl
      have hi2 : I pre W2 := by rw [← hW2]; exact hI.putObj _ hi (by omega) hl rfl
      have hx2 : Rd x W2 := by rw [← hW2]; exact hRd _ _ _ _ _ (by omega) (by omega) hl rfl hx
      -- the round's end, whatever jump it leaves
      have fin : ∀ (jump : Option Code) (W3 : World), KeepsOthers W2 W3 → ∃ W4, (Instr.endRound (w.heap.size + 1) jump).run P W3 = .ok (.bool jump.isNone) W4 ∧
          W4.heap[w.heap.size + 1]? = some (.loop (rec (if jump.isNone then .ready else .done) jump)) ∧ W4.heap[w.heap.size]? = some (.deferred (some [])) ∧
          (∀ c, Ix c (pre ++ [x]) W3 → Ix c (pre ++ [x]) W4) ∧ (I (pre ++ [x]) W3 → I (pre ++ [x]) W4) ∧ Kp W3 W4 := fun jump W3 hk3 => by
        have hl3 := hk3.same _ _ hl2 rfl
        have hr := run_endRound (P := P) jump hl3
        refine ⟨_, hr, ?_, (World.putObj_heap_other (by omega)).trans (hk3.same _ _ hd2 rfl), fun c hc => (hIx c).putObj _ hc (by omega) hl3 rfl, fun hc => hI.putObj _ hc (by omega) hl3 rfl, hKb _ _ _ _ (by omega) (by omega) hl3 rfl⟩
        rw [World.putObj_heap_same (Array.getElem?_eq_some_iff.1 hl3).1, hrec]
      rw [hrec] at hy
      have e : (#[p].zip #[enc x]).foldl (fun (t : Array Value) (q : Tmp × Value) => t.setIfInBounds q.1 q.2) a.tmps = a.tmps.setIfInBounds p (enc x) := by simp
      refine ⟨fn, a.tmps.setIfInBounds p (enc x), assign, body, hy.trans (by rw [← e]), roundIn_of_wpIn hfn ?_⟩
      refine hassign _ x W _ ?_
      refine ⟨_, hb, ?_⟩
      rw [hW2]
      refine wpIn_mono (hbody _ pre x _ hi2 hx2 hs) ?_
      rintro e a3 W3 hp
      cases e with
      | normal =>
        obtain ⟨hk3, hkp3, hi3⟩ := hp
        obtain ⟨W4, hr, hl4, hd4, _, hi4, hk4⟩ := fin none W3 hk3
        exact ⟨_, W4, hr, .inl ⟨rfl, ⟨hi4 hi3, hl4, hd4⟩, hKt _ _ _ (hKt _ _ _ hk2 hkp3) hk4⟩⟩
      | ret =>
        obtain ⟨W4, hr, hl4, hd4, hx4, _, _⟩ := fin (some .ret) W3 hp.1
        exact ⟨_, W4, hr, .inr ⟨rfl, .ret, hx4 _ hp.2, hl4, hd4⟩⟩
      | exit id =>
        obtain ⟨W4, hr, hl4, hd4, hx4, _, _⟩ := fin (some (.exit id)) W3 hp.1
        exact ⟨_, W4, hr, .inr ⟨rfl, .exit id, hx4 _ hp.2, hl4, hd4⟩⟩
      | goto t =>
        obtain ⟨W4, hr, hl4, hd4, hx4, _, _⟩ := fin (some (.goto t)) W3 hp.1
        exact ⟨_, W4, hr, .inr ⟨rfl, .goto t, hx4 _ hp.2, hl4, hd4⟩⟩
      | panic ch => exact hp.elim
      | outgrown => exact hp.elim
    · rintro e W2 ⟨⟨v, rfl⟩, (⟨xs, hS, hi, hl, hd⟩ | ⟨pre, hSp, c, hi, hl, hd⟩)⟩
      · have hr := run_endLoop (P := P) hl (by rw [hrec]; simp)
        rw [hrec] at hr
        exact ⟨none, _, hr, hdone _ xs _ (Nat.le_refl _) hS (hI.putObj _ hi (by omega) hl rfl) ((World.putObj_heap_other (by omega)).trans hd)⟩
      · have hr := run_endLoop (P := P) hl (by rw [hrec]; simp)
        rw [hrec] at hr
        exact ⟨some c, _, hr, hstop _ c pre _ (Nat.le_refl _) hSp ((hIx c).putObj _ hi (by omega) hl rfl) ((World.putObj_heap_other (by omega)).trans hd)⟩
structure But (V:World→Nat→Prop) (W W':World):Prop where
 os:W'.os = W.os
 tape:W'.tape = W.tape
 output:W'.output = W.output
 size:W.heap.size≤W'.heap.size
 block:∀ k,k < W.heap.size→¬ V W k→W'.heap[k]? = W.heap[k]?
 less:∀ k,k < W.heap.size→V W' k→V W k
theorem But.refl (V:World→Nat→Prop) (W:World):But V W W:=⟨rfl,rfl,rfl,Nat.le_refl _,fun _ _ _=>rfl,fun _ _ h=>h⟩
theorem But.trans {V:World→Nat→Prop} {A B C:World} (h:But V A B) (k:But V B C):But V A C :=
 ⟨k.os.trans h.os,k.tape.trans h.tape,k.output.trans h.output,Nat.le_trans h.size k.size,
  fun i hi hv=>(k.block i (Nat.lt_of_lt_of_le hi h.size) (fun e=>hv (h.less i hi e))).trans (h.block i hi hv),fun i hi hv=>h.less i hi (k.less i (Nat.lt_of_lt_of_le hi h.size) hv)⟩
def Gdv (V:World→Nat→Prop) (W:World):Prop:=∀ W',Below W.heap.size W W'→∀ k,V W' k→V W k∧k < W.heap.size
theorem But.of_below {V:World→Nat→Prop} {W W':World} (h:Below W.heap.size W W') (hg:Gdv V W):But V W W':=⟨h.os,h.tape,h.output,h.size,fun k hk _=>h.block k hk,fun k _ hv=>(hg W' h k hv).1⟩
theorem But.of_grownBy {V:World→Nat→Prop} {W W':World} {row:Option Nat} (h:W.grownBy W' row) (hV:∀ k,row = some k→k < W.heap.size→V W k) (hl:∀ k,k < W.heap.size→V W' k→V W k):But V W W' :=
 ⟨h.os,h.tape,h.output,h.size,fun k hk hv=>h.block k hk (fun e=>hv (hV k e.symm hk)),hl⟩
theorem But.cell {V:World→Nat→Prop} {W W':World} (h:But V W W') {p:Addr} (hp:p.block < W.heap.size) (hv:¬ V W p.block):W'.cell? p = W.cell? p:=World.cell?_of_block (h.block _ hp hv)
theorem But.same {V:World→Nat→Prop} {W W':World} (h:But V W W'):Go.Proofs.YtbjcioknfjofkaaGreat.Same (fun k=>k < W.heap.size∧¬ V W k) W W':=fun p hp=>h.cell hp.1 hp.2
theorem But.setCell {V:Nat→Prop} (W:World) {p:Addr} (hV:V p.block) (u:Value):But (fun _=>V) W (W.setCell p u) :=
 ⟨rfl,rfl,rfl,by simp [World.setCell],fun k hk hv=>Below.heap_setCell _ _ _ _ (fun e=>hv (e ▸ hV)),fun _ _ h=>h⟩
theorem But.putObj {V:Nat→Prop} (W:World) (l:Nat) (o:Obj) (hV:V l):But (fun _=>V) W (W.putObj l o):=But.of_grownBy (grownBy_putObj' W l o) (fun k e _=>by cases e;exact hV) (fun _ _ h=>h)
theorem But.drewN {V:Nat→Prop} (W:World) (n:Nat):But (fun _=>V) W (W.drewN n):=⟨rfl,rfl,rfl,Nat.le_refl _,fun _ _ _=>rfl,fun _ _ h=>h⟩
theorem zJk (W:World) (n:Nat):KeepsOthers W (W.drewN n):=⟨Nat.le_refl _,fun _ _ h _=>h⟩
end Go.Proofs.YtbjcioknfjofkaaGreat
namespace Go.Proofs.YtbjcioknfjofkaaGreat
open Go.RowKit
def icmp (a b:Int):Int:=if a < b then -1 else if b < a then 1 else 0
theorem zM0 (a:Int) (w:World):Calls Tryz.prog 178 #[.int .i64 a] w fun e w'=>e = .returned (.bool false)∧w = w':=by
 go_enter Tryz.func178,Tryz.ntmps178
 go_wp2
 go_ret
 exact ⟨by simp,rfl⟩
set_option maxHeartbeats 1000000 in
theorem ccmp_q (a b:Int) (w:World):Calls Tryz.prog 158 #[.int .i64 a,.int .i64 b] w fun e w'=>e = .returned (.int .i64 (icmp a b))∧w = w':=by
 by_cases h1:a < b
 ·have HF:Hid (icmp a b = -1):=by show _ = _;rw [icmp,if_pos h1]
  go_enter Tryz.func158,Tryz.ntmps158
  go_wp2_with (go_at_call 178;refine (zM0 _ _).mono ?_;rintro e w' ⟨rfl,rfl⟩)
  go_ret
  exact ⟨by rw [HF.out];rfl,rfl⟩
 ·by_cases h2:b < a
  ·have HF:Hid (icmp a b = 1):=by show _ = _;rw [icmp,if_neg h1,if_pos h2]
   have d1:decide (a < b) = false:=by simpa using h1
   go_enter Tryz.func158,Tryz.ntmps158
   go_wp2_with (go_at_call 178;refine (zM0 _ _).mono ?_;rintro e w' ⟨rfl,rfl⟩)
   go_ret
   exact ⟨by rw [HF.out];rfl,rfl⟩
  ·have HF:Hid (icmp a b = 0):=by show _ = _;rw [icmp,if_neg h1,if_neg h2]
   have d1:decide (a < b) = false:=by simpa using h1
   have d2:decide (b < a) = false:=by simpa using h2
   go_enter Tryz.func158,Tryz.ntmps158
   go_wp2_with (go_at_call 178;refine (zM0 _ _).mono ?_;rintro e w' ⟨rfl,rfl⟩)
   go_ret
   exact ⟨by rw [HF.out];rfl,rfl⟩
theorem cmpS_ne {a b:Int} {l r:List Int} (h:icmp a b≠0):cmpS (a :: l) (b :: r) = icmp a b:=by
 unfold icmp at *;rw [cmpS];split <;> simp_all
theorem cmpS_eq {a b:Int} {l r:List Int} (h:icmp a b = 0):cmpS (a :: l) (b :: r) = cmpS l r:=by
 unfold icmp at h;rw [cmpS]
 by_cases h1:a < b
 ·rw [if_pos h1] at h;omega
 ·by_cases h2:b < a
  ·rw [if_neg h1,if_pos h2] at h;omega
  ·rw [if_neg h1,if_neg h2]
set_option maxHeartbeats 1000000 in
theorem scmp_q (xs ys:List Int) (w:World) (a b:Value) (B B':Nat→Prop) (ha:zAh w B xs a) (hb:zAh w B' ys b) :
  Calls Tryz.prog 110 #[a,b] w fun e w'=>e = .returned (.int .i64 (cmpS xs ys))∧w = w':=by
 obtain ⟨A,cap,rs,rfl,hcap,hmax,hrd,hls⟩:=ha
 obtain ⟨A',cap',rs',rfl,hcap',hmax',hrd',hls'⟩:=hb
 unfold maxLen at hmax hmax'
 have hl1:xs.length≤9223372036854775807:=by omega
 have hl2:ys.length≤9223372036854775807:=by omega
 have H:Hid ((zBk w B A rs∧zAw intE w B xs rs)∧(zBk w B' A' rs'∧zAw intE w B' ys rs')):=⟨⟨hrd,hls⟩,⟨hrd',hls'⟩⟩
 clear hrd hls hrd' hls'
 go_enter Tryz.func110,Tryz.ntmps110
 go_wp2
 go_loop [11] (fun i=>∃ (k:Nat),k≤xs.length∧k≤ys.length∧i = .int .i64 k∧cmpS (xs.drop k) (ys.drop k) = cmpS xs ys) (fun i=>xs.length - (intOf i).toNat)
 case atStart=>exact ⟨0,Nat.zero_le _,Nat.zero_le _,rfl,rfl⟩
 case round =>
  obtain ⟨k,hk,hk',rfl,hrest⟩:=hrel
  have HR:=hid hrest
  clear hrest
  by_cases hx:k < xs.length
  ·obtain ⟨g,o,rfl,hg,hi,c0⟩:=zB2 H.out.1.1 H.out.1.2 hx
   have i1:(k:Int) < (xs.length:Int):=by omega
   by_cases hy:k < ys.length
   ·obtain ⟨g',o',rfl,hg',hi',c0'⟩:=zB2 H.out.2.1 H.out.2.2 hy
    have i2:(k:Int) < (ys.length:Int):=by omega
    have i3:decide ((ys.length:Int)≤(k:Int)) = false:=by simp;omega
    by_cases h0:icmp xs[k] ys[k] = 0
    ·have HF:Hid (cmpS (xs.drop k) (ys.drop k) = cmpS (xs.drop (k + 1)) (ys.drop (k + 1))):=by show _ = _;rw [List.drop_eq_getElem_cons hx,List.drop_eq_getElem_cons hy,cmpS_eq h0]
     go_wp2_with (go_at_call 158;refine (ccmp_q _ _ _).mono ?_;rintro e w' ⟨rfl,rfl⟩)
     go_round
     case rel=>exact ⟨k + 1,by omega,by omega,by go_num,by rw [← HR.out,HF.out]⟩
     case measure=>simp [intOf];omega
    ·have HF:Hid (cmpS (xs.drop k) (ys.drop k) = icmp xs[k] ys[k]):=by show _ = _;rw [List.drop_eq_getElem_cons hx,List.drop_eq_getElem_cons hy,cmpS_ne h0]
     have h1:(!(icmp xs[k] ys[k] == 0)) = true:=by simpa using h0
     have HC:Hid (∀ W,Calls Tryz.prog 158 #[.int .i64 xs[k],.int .i64 ys[k]] W fun e w'=>e = .returned (.int .i64 (icmp xs[k] ys[k]))∧W = w'):=fun W=>ccmp_q _ _ W
     generalize icmp xs[k] ys[k] = c at *
     go_wp2_with (go_at_call 158;refine (HC.out _).mono ?_;rintro e w' ⟨rfl,rfl⟩)
     go_ret
     exact ⟨by rw [← HR.out,HF.out];rfl,rfl⟩
   ·have HF:Hid (cmpS (xs.drop k) (ys.drop k) = 1):=by show _ = _;rw [List.drop_eq_getElem_cons hx,List.drop_of_length_le (show ys.length≤k by omega),cmpS]
    have i3:decide ((ys.length:Int)≤(k:Int)) = true:=by simp;omega
    go_wp2
    go_ret
    exact ⟨by rw [← HR.out,HF.out];rfl,rfl⟩
  ·have hke:k = xs.length:=by omega
   by_cases hy:k < ys.length
   ·have HF:Hid (cmpS (xs.drop k) (ys.drop k) = -1):=by show _ = _;rw [List.drop_of_length_le (show xs.length≤k by omega),List.drop_eq_getElem_cons hy,cmpS]
    have e1:decide ((xs.length:Int) < (ys.length:Int)) = true:=by simp;omega
    clear hke
    go_wp2
    go_ret
    exact ⟨by rw [← HR.out,HF.out];rfl,rfl⟩
   ·have HF:Hid (cmpS (xs.drop k) (ys.drop k) = 0):=by show _ = _;rw [List.drop_of_length_le (show xs.length≤k by omega),List.drop_of_length_le (show ys.length≤k by omega),cmpS]
    have e1:decide ((xs.length:Int) < (ys.length:Int)) = false:=by simp;omega
    clear hke
    go_wp2
    go_ret
    exact ⟨by rw [← HR.out,HF.out];rfl,rfl⟩
end Go.Proofs.YtbjcioknfjofkaaGreat
