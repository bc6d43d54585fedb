/- Texts put together. -/
import Derived.Test.YthpngeboknmllaaQe1e3c129d4
import Derived.Test.YthpngeboknmllaaQ2925dd3ad5
set_option linter.unusedVariables false
set_option linter.unusedSimpArgs false
namespace Go.Proofs.Ythpngeboknmllaa
open Go.RowKit
def Sv (h:Nat) (lv:Value) (wr:World) (k:Nat):Prop:=h≤k∧k < wr.heap.size∧k≠h + 1∧some k≠lv.ownBlock
def addrs (P:List PendT):List (Nat × Nat):=P.map fun x=>(x.1,x.2.1)
def pcnt:List PendT→Nat
 | []=>0
 | x :: P=>countS x.2.2 + pcnt P
theorem pcnt_append (P Q:List PendT):pcnt (P ++ Q) = pcnt P + pcnt Q:=by
 induction P with
 | nil=>simp [pcnt]
 | cons x P ih=>simp only [List.cons_append,pcnt,ih];omega
def kidsF (g:Nat):Nat→List Tree→List PendT
 | _,[]=>[]
 | i,t :: ts=>(g,i * 4,t) :: kidsF g (i + 1) ts
def kidsP (g:Nat) (ts:List Tree):List PendT:=kidsF g 0 ts
theorem kidsF_len (g:Nat):∀ (ts:List Tree) (i:Nat),(kidsF g i ts).length = ts.length
 | [],i=>rfl
 | t :: ts,i=>by simp [kidsF,kidsF_len g ts (i + 1)]
theorem kidsF_get (g : Nat) : ∀ (ts : List Tree) (i j : Nat) (h : j < ts.length), (kidsF g i ts)[j]? = some (g, (i + j) * 4, ts[j])
  | t :: ts, i, 0, h => by simp [kidsF]
  | t :: ts, i, j + 1, h => by
    simp only [kidsF, List.getElem?_cons_succ, List.getElem_cons_succ]
    rw [kidsF_get g ts (i + 1) j (by simpa using h), show i + 1 + j = i + (j + 1) by omega]
theorem kidsF_cnt (g:Nat):∀ (ts:List Tree) (i:Nat),pcnt (kidsF g i ts) = countsS ts
 | [],i=>rfl
 | t :: ts,i=>by simp only [kidsF,pcnt,countsS,kidsF_cnt g ts (i + 1)]
structure DI (w wr:World) (e en:TypeId) (lv:Value) (t:Tree) (SL PL:List PendT):Prop where
 stack:StackR wr (w.heap.size + 2) e lv SL
 pend:∀ x ∈ PL,PendAt w wr (Sv w.heap.size lv wr) x
 nodup:(addrs PL).Nodup
 built:Built wr (Sv w.heap.size lv wr) (· ∈ PL) w.heap.size 0 t
 below:Below w.heap.size w wr
 box:w.heap.size + 2≤wr.heap.size
 frz:∀ x ∈ PL,wr.frozen? ⟨x.1,x.2.1 + 3,none⟩ = false
 res:wr.heap[w.heap.size + 1]? = some (.cells #[.int .i64 0,.string ⟨#[]⟩,.int .i64 0,.slice none 0 0] en (0,0))
theorem DI.push {w wr w':World} {e en:TypeId} {lv v':Value} {t:Tree} {SL SL' PL:List PendT} (hd:DI w wr e en lv t SL PL) (hs:StackR w' (w.heap.size + 2) e v' SL') (hg:wr.grownBy w' lv.ownBlock) (hv:∀ k,v'.ownBlock = some k→lv.ownBlock = some k∨wr.heap.size≤k)
  : DI w w' e en v' t SL' PL:=by
 have hS:∀ k,Sv w.heap.size lv wr k→Sv w.heap.size v' w' k:=fun k hk=>⟨hk.1,Nat.lt_of_lt_of_le hk.2.1 hg.size,hk.2.2.1,fun e=>by
  rcases hv k e.symm with h | h
  ·exact hk.2.2.2 h.symm
  ·have:=hk.2.1;omega⟩
 have hc:∀ q:Addr,Sv w.heap.size lv wr q.block→w'.cell? q = wr.cell? q:=fun q hq=>World.cell?_of_block (hg.block q.block hq.2.1 hq.2.2.2)
 have hb:∀ k,lv.ownBlock = some k→w.heap.size≤k:=fun k hk=>by have:=(hd.stack.lt k hk).1;omega
 refine ⟨hs,fun x hx=>(hd.pend x hx).keep hS (fun j _=>hc ⟨x.1,x.2.1 + j,none⟩ (hd.pend x hx).1),hd.nodup,hd.built.keep hS hc (fun _ h=>h),hd.below.grown hg (by have:=hd.box;omega) (fun k e=>hb k e),Nat.le_trans hd.box hg.size,fun x hx=>(World.frozen?_of_block (hg.block x.1 (hd.pend x hx).1.2.1 (hd.pend x hx).1.2.2.2)).trans (hd.frz x hx),(hg.block _ (by have:=hd.box;omega) (fun e=>by have:=(hd.stack.lt _ e.symm).1;omega)).trans hd.res⟩
theorem DI.result {w wr:World} {e en:TypeId} {lv:Value} {t:Tree} {SL:List PendT} (hd:DI w wr e en lv t SL []):∃ v,NodeAtC wr w.heap.size 0 t v∧SliceR treeE wr (Sv w.heap.size lv wr) t.kids v:=by
 obtain ⟨v,h1,_,h3⟩:=hd.built.reads (fun x h=>by cases h)
 exact ⟨v,h1,h3⟩
theorem kidsP_mem {g:Nat} {ts:List Tree} {x:PendT}:x ∈ kidsP g ts ↔ ∃ (i:Nat) (h:i < ts.length),x = (g,i * 4,ts[i]):=by
 constructor
 ·intro hx
  obtain ⟨i,hi,h⟩:=List.mem_iff_getElem.1 hx
  have hi':i < ts.length:=by rw [← kidsF_len g ts 0];exact hi
  have:=kidsF_get g ts 0 i hi'
  rw [Nat.zero_add] at this
  refine ⟨i,hi',?_⟩
  have h2:(kidsP g ts)[i]? = some x:=by rw [List.getElem?_eq_getElem hi,h]
  rw [kidsP,this] at h2
  exact (Option.some.inj h2).symm
 ·rintro ⟨i,hi,rfl⟩
  have:=kidsF_get g ts 0 i hi
  rw [Nat.zero_add] at this
  exact List.mem_of_getElem? this
theorem kidsF_lo (g : Nat) : ∀ (ts : List Tree) (i : Nat), ∀ a ∈ addrs (kidsF g i ts), i * 4 ≤ a.2
  | [], i, a, h => by simp [kidsF, addrs] at h
  | t :: ts, i, a, h => by
    simp only [kidsF, addrs, List.map_cons, List.mem_cons] at h
    rcases h with rfl | h
    · simp
    · have := kidsF_lo g ts (i + 1) a h
      omega
theorem kidsF_nodup (g : Nat) : ∀ (ts : List Tree) (i : Nat), (addrs (kidsF g i ts)).Nodup
  | [], i => by simp [kidsF, addrs]
  | t :: ts, i => by
    simp only [kidsF, addrs, List.map_cons, List.nodup_cons]
    refine ⟨fun h => ?_, kidsF_nodup g ts (i + 1)⟩
    have := kidsF_lo g ts (i + 1) _ h
    simp only at this
    omega
theorem kidsP_addrs {g:Nat} {ts:List Tree}:(addrs (kidsP g ts)).Nodup:=kidsF_nodup g ts 0
theorem DI.node {w wr W4:World} {e en:TypeId} {lv lv':Value} {t:Tree} {Q:List PendT} {x:PendT} {g' cap':Nat} {A':Option Addr} (hd:DI w wr e en lv t (Q ++ [x]) (Q ++ [x]))
  (hk:∀ q:Addr,q.block < wr.heap.size→q≠⟨x.1,x.2.1 + 3,none⟩→W4.cell? q = wr.cell? q) (hs:StackR W4 (w.heap.size + 2) e lv' Q) (hown:lv'.ownBlock = lv.ownBlock) (hb:Below w.heap.size w W4) (hsz:wr.heap.size≤W4.heap.size)
  (hf:∀ q:Addr,q.block < wr.heap.size→W4.frozen? q = wr.frozen? q) (hfn:0 < x.2.2.kids.length→∀ o,W4.frozen? ⟨g',o,none⟩ = false) (hres:W4.heap[w.heap.size + 1]? = wr.heap[w.heap.size + 1]?) (hc:W4.cell? ⟨x.1,x.2.1 + 3,none⟩ = some (.slice A' x.2.2.kids.length cap')) (hcap:x.2.2.kids.length≤cap') (hmax:cap'≤maxLen)
  (hg:wr.heap.size≤g') (hA:0 < x.2.2.kids.length→A' = some ⟨g',0,none⟩∧g' < W4.heap.size)
  (hcells:∀ (i:Nat) (hi:i < x.2.2.kids.length),NodeOk x.2.2.kids[i]∧∃ v,NodeAtC W4 g' (i * 4) x.2.2.kids[i] v∧SliceR treeE w (Lt w.heap.size) x.2.2.kids[i].kids v) :
  DI w W4 e en lv' t Q (Q ++ kidsP g' x.2.2.kids):=by
 have hS:∀ k,Sv w.heap.size lv wr k→Sv w.heap.size lv' W4 k:=fun k hk=>⟨hk.1,Nat.lt_of_lt_of_le hk.2.1 hsz,hk.2.2.1,by rw [hown];exact hk.2.2.2⟩
 have hbx:=hd.box
 have hlt:∀ k,lv.ownBlock = some k→k < wr.heap.size:=fun k hk=>(hd.stack.lt k hk).2
 have hSg:0 < x.2.2.kids.length→Sv w.heap.size lv' W4 g':=fun h=>⟨by omega,(hA h).2,by omega,by rw [hown];intro e;have:=hlt _ e.symm;omega⟩
 have hkS:∀ q:Addr,Sv w.heap.size lv wr q.block→q≠⟨x.1,x.2.1 + 3,none⟩→W4.cell? q = wr.cell? q:=fun q hq hne=>hk q hq.2.1 hne
 have hx:=hd.pend x (by simp)
 have hnd:=hd.nodup
 unfold addrs at hnd
 rw [List.map_append,List.nodup_append] at hnd
 refine ⟨hs,?_,?_,?_,hb,Nat.le_trans hbx hsz,?_,hres.trans hd.res⟩
 ·intro y hy
  rcases List.mem_append.1 hy with hy | hy
  ·refine (hd.pend y (by simp [hy])).other hx.2.1 (fun e=>?_) hS hkS
   exact hnd.2.2 _ (List.mem_map_of_mem hy) _ (List.mem_map_of_mem (List.mem_singleton_self x)) (by rw [Prod.mk.injEq];exact e)
  ·obtain ⟨i,hi,rfl⟩:=kidsP_mem.1 hy
   obtain ⟨h1,v,h2,h3⟩:=hcells i hi
   exact ⟨hSg (by omega),⟨i,rfl⟩,h1,v,h2,h3⟩
 ·unfold addrs
  rw [List.map_append,List.nodup_append]
  refine ⟨hnd.1,kidsP_addrs,?_⟩
  intro a ha b hb' e
  subst e
  obtain ⟨y,hy,rfl⟩:=List.mem_map.1 ha
  obtain ⟨z,hz,hz2⟩:=List.mem_map.1 hb'
  obtain ⟨i,hi,rfl⟩:=kidsP_mem.1 hz
  have h1:=(hd.pend y (by simp [hy])).1.2.1
  have h2:g' = y.1:=congrArg Prod.fst hz2
  omega
 ·refine Built.step (g':=g') hx (fun y hy=>?_) hS (fun k hk=>hk.1) hkS hc hcap hmax (fun h=>⟨(hA h).1,hSg h⟩) (fun i hi=>List.mem_append_right _ (kidsP_mem.2 ⟨i,hi,rfl⟩)) hd.built
  rcases List.mem_append.1 hy with hy | hy
  ·exact .inr (List.mem_append_left _ hy)
  ·exact .inl (List.mem_singleton.1 hy)
 ·intro y hy
  rcases List.mem_append.1 hy with hy | hy
  ·exact (hf _ (hd.pend y (by simp [hy])).1.2.1).trans (hd.frz y (by simp [hy]))
  ·obtain ⟨i,hi,rfl⟩:=kidsP_mem.1 hy
   exact hfn (by omega) _
end Go.Proofs.Ythpngeboknmllaa
