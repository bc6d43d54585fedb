/- Texts put together. -/
import Derived.Test.YtbjcioknfjofkaaGreatQ15a259026b
import Derived.Test.YtbjcioknfjofkaaGreatQ01b1205144
import Derived.Test.YtbjcioknfjofkaaGreatQ765e75d53c
set_option linter.unusedVariables false
set_option linter.unusedSimpArgs false
set_option maxRecDepth 100000
namespace Go.Proofs.YtbjcioknfjofkaaGreat
open Go.RowKit
def NF (F:Nat→Prop) (W:World) (k:Nat):Prop:=k < W.heap.size∧¬ F k
structure Stp (F F':Nat→Prop) (W W':World):Prop where
 kept:Kept F W W'
 new:∀ k,F' k→F k∨W.heap.size≤k
theorem Stp.of_bl {F:Nat→Prop} {W W':World} (h:Below W.heap.size W W'):Stp F F W W':=⟨Kept.of_below h _,fun _ h=>.inl h⟩
theorem Stp.keep {α:Type} {E:Enc α} {F F':Nat→Prop} {W W':World} {xs:List α} {v:Value} (h:Stp F F' W W') (hr:SliceR E W (NF F W) xs v):SliceR E W' (NF F' W') xs v :=
 hr.keep (fun q hq=>h.kept.cell hq.1 hq.2) (fun k hk=>⟨Nat.lt_of_lt_of_le hk.1 h.kept.size,fun e=>(h.new k e).elim hk.2 (fun e=>absurd hk.1 (by omega))⟩)
theorem nf_bl {α:Type} {E:Enc α} {F:Nat→Prop} {W W':World} {xs:List α} {v:Value} (h:Below W.heap.size W W') (hr:SliceR E W (NF F W) xs v):SliceR E W' (NF F W') xs v:=(Stp.of_bl h).keep hr
theorem nf_lt {α:Type} {E:Enc α} {F:Nat→Prop} {W:World} {xs:List α} {v:Value} (hr:SliceR E W (NF F W) xs v):SliceR E W (Lt W.heap.size) xs v:=hr.keep (fun _ _=>rfl) (fun k hk=>hk.1)
theorem row_new (X:World) (is:List Int) (T:TypeId) (h64:∀ i ∈ is,In64 i) (hl:is.length≤maxLen):IntsR (X.alloc (.cells (is.map (.int .i64 ·)).toArray T)) (fun k=>k = X.heap.size) is (.slice (some ⟨X.heap.size,0,none⟩) is.length is.length):=by
 refine ⟨_,_,is.map (.int .i64 ·),rfl,Nat.le_refl _,hl,fun _=>⟨X.heap.size,0,rfl,rfl,fun j u hu=>?_⟩,listR_int.2 ⟨rfl,h64⟩⟩
 rw [Nat.zero_add,World.cell?_alloc_new]
 simpa using hu
theorem row_stp {F F':Nat→Prop} {X W':World} {T:TypeId} (is:List Int) (h64:∀ i ∈ is,In64 i) (hl:is.length≤maxLen) (hF:∀ k,F k→k < X.heap.size) (hs:Stp F F' (X.alloc (.cells (is.map (.int .i64 ·)).toArray T)) W'):IntsR W' (NF F' W') is (.slice (some ⟨X.heap.size,0,none⟩) is.length is.length) :=
 hs.keep ((row_new X is T h64 hl).keep (fun _ _=>rfl) (fun k hk=>by subst hk;exact ⟨by simp,fun e=>absurd (hF _ e) (Nat.lt_irrefl _)⟩))
theorem row_lt (X:World) (is:List Int) (T:TypeId) (h64:∀ i ∈ is,In64 i) (hl:is.length≤maxLen):IntsR (X.alloc (.cells (is.map (.int .i64 ·)).toArray T)) (Lt (X.alloc (.cells (is.map (.int .i64 ·)).toArray T)).heap.size) is (.slice (some ⟨X.heap.size,0,none⟩) is.length is.length) :=
 (row_new X is T h64 hl).keep (fun _ _=>rfl) (fun k hk=>by subst hk;unfold Lt;simp)
structure BS (w0 W:World) (F:Nat→Prop) (B:Nat) (x:Array Value) (ops:List OpD):Prop where
 below:Below w0.heap.size w0 W
 lo:∀ k,F k→w0.heap.size≤k
 hi:∀ k,F k→k < W.heap.size
 ex:∃ arr b vo,HasObj W B (.cells arr 102)∧arr.size = 25∧(∀ j,j < 6→arr[j]? = x[j]?)∧arr[20]? = some vo∧OwnE opE 67 W b ops vo∧B < b∧b≤W.heap.size∧arr[23]? = some (.slice none 0 0)∧arr[24]? = some (.slice none 0 0)∧∀ k,(k = B∨some k = vo.ownBlock)→F k
theorem BS.bl {w0 W W':World} {F:Nat→Prop} {B:Nat} {x:Array Value} {ops:List OpD} (h:BS w0 W F B x ops) (hb:Below W.heap.size W W'):BS w0 W' F B x ops:=by
 obtain ⟨arr,b,vo,ho,h1,h2,h3,h4,h5,h6,h7,h8,h9⟩:=h.ex
 exact ⟨h.below.trans (hb.mono h.below.size),h.lo,fun k hk=>Nat.lt_of_lt_of_le (h.hi k hk) hb.size,arr,b,vo,ho.below hb,h1,h2,h3,h4.below hb,h5,Nat.le_trans h6 hb.size,h7,h8,h9⟩
structure BA (w0 W:World) (B:Nat) (x:Array Value) (ops:List OpD) (ap am:List Int):Prop where
 below:Below w0.heap.size w0 W
 lo:w0.heap.size≤B
 ex:∃ arr vo vap vam,HasObj W B (.cells arr 102)∧arr.size = 25∧(∀ j,j < 6→arr[j]? = x[j]?)∧arr[20]? = some vo∧arr[23]? = some vap∧arr[24]? = some vam∧SliceR opE W (fun k=>B < k∧k < W.heap.size) ops vo∧IntsR W (fun k=>B < k∧k < W.heap.size) ap vap∧IntsR W (fun k=>B < k∧k < W.heap.size) am vam
theorem keepB {α:Type} {E:Enc α} {W W':World} {B:Nat} {xs:List α} {v:Value} (h:Kept (fun k=>k = B) W W') (hr:SliceR E W (fun k=>B < k∧k < W.heap.size) xs v):SliceR E W' (fun k=>B < k∧k < W'.heap.size) xs v :=
 hr.keep (fun q hq=>h.cell hq.2 (Nat.ne_of_gt hq.1)) (fun k hk=>⟨hk.1,Nat.lt_of_lt_of_le hk.2 h.size⟩)
theorem BA.bl {w0 W W':World} {B:Nat} {x:Array Value} {ops:List OpD} {ap am:List Int} (h:BA w0 W B x ops ap am) (hb:Below W.heap.size W W'):BA w0 W' B x ops ap am:=by
 obtain ⟨arr,vo,vap,vam,ho,h1,h2,h3,h4,h5,h6,h7,h8⟩:=h.ex
 exact ⟨h.below.trans (hb.mono h.below.size),h.lo,arr,vo,vap,vam,ho.below hb,h1,h2,h3,h4,h5,keepB (Kept.of_below hb _) h6,keepB (Kept.of_below hb _) h7,keepB (Kept.of_below hb _) h8⟩
theorem cb_build (x0 x1 x2 x3 x4 x5 x6 x7 x8 x9 x10 x11 x12 x13 x14 x15 x16 x17 x18 x19:Value) (w0 W:World) (hW:Below w0.heap.size w0 W) :
  Calls Tryz.prog 39 #[.agg #[x0,x1,x2,x3,x4,x5,x6,x7,x8,x9,x10,x11,x12,x13,x14,x15,x16,x17,x18,x19]] W fun e w'=>∃ B F,e = .returned (.pointer (some ⟨B,0,none⟩))∧BS w0 w' F B #[x0,x1,x2,x3,x4,x5,x6,x7,x8,x9,x10,x11,x12,x13,x14,x15,x16,x17,x18,x19] []∧Stp (fun _=>False) F W w':=by
 refine (build_any x0 x1 x2 x3 x4 x5 x6 x7 x8 x9 x10 x11 x12 x13 x14 x15 x16 x17 x18 x19 W).mono ?_
 rintro e w' ⟨B,rfl,hB,ho,hb⟩
 have hs:=hW.size
 refine ⟨B,fun k=>k = B,rfl,⟨hW.trans (hb.mono hs),by rintro k rfl;omega,by rintro k rfl;exact ho.lt,_,B + 1,.slice none 0 0,ho,rfl,fun j hj=>?_,rfl,OwnE.nil _ _,by omega,ho.lt,rfl,rfl,fun k hk=>?_⟩,Kept.of_below hb _,fun k e=>.inr (e ▸ hB)⟩
 ·rcases j with _ | _ | _ | _ | _ | _ | j <;> first | rfl | omega
 ·rcases hk with hk | hk
  ·exact hk
  ·simp [Value.ownBlock] at hk
theorem cb_op {w0 W:World} {F:Nat→Prop} {B:Nat} {x:Array Value} {ops:List OpD} (h:BS w0 W F B x ops) (op:OpD) (Ar An:Option Addr) (cr cn:Nat) (hol:ops.length≤1000)
  (hr:IntsR W (Lt W.heap.size) op.row (.slice Ar op.row.length cr)) (hn:SliceR treeE W (Lt W.heap.size) op.nodes (.slice An op.nodes.length cn)) (hrl:op.row.length≤1000000) (hnc:countsS op.nodes≤1000000) (hk:In64 op.kind) (ha:In64 op.at_) (hn64:In64 op.n) (hs:In64 op.slot) (hot:op.old.size≤maxLen) (htx:op.text.size≤maxLen) :
  Calls Tryz.prog 40 #[.pointer (some ⟨B,0,none⟩),.agg (opC op (.slice Ar op.row.length cr) (.slice An op.nodes.length cn))] W fun e w'=>∃ F',e = .returned (.pointer (some ⟨B,0,none⟩))∧BS w0 w' F' B x (ops ++ [op])∧Stp F F' W w':=by
 obtain ⟨arr,b,vo,ho,hz,h6,h20,hown,hBb,hb,h23,h24,hF⟩:=h.ex
 refine (bop_any B b arr vo ops op Ar An cr cn W ho h20 hown hBb hb hol hr hn hrl hnc hk ha hn64 hs hot htx).mono ?_
 rintro e w' ⟨vo',rfl,ho',hown',hkp,hnew⟩
 have hkF:=hkp.mono (fun k _ e=>hF k e)
 have hBF:=hF B (.inl rfl)
 have hlo:=h.lo B hBF
 refine ⟨fun k=>k = B∨some k = vo'.ownBlock,rfl,⟨h.below.trans (hkF.below h.below.size h.lo),?_,?_,_,b,vo',ho',by simpa using hz,fun j hj=>?_,by rw [Array.getElem?_setIfInBounds_self_of_lt];omega,hown',hBb,Nat.le_trans hb hkp.size,?_,?_,fun k e=>e⟩,hkF,?_⟩
 ·rintro k (rfl | e)
  ·exact hlo
  ·have:=(hown'.own_lt k e.symm).1;omega
 ·rintro k (rfl | e)
  ·exact ho'.lt
  ·exact (hown'.own_lt k e.symm).2
 ·rw [Array.getElem?_setIfInBounds_ne (by omega)];exact h6 j hj
 ·rw [Array.getElem?_setIfInBounds_ne (by decide)];exact h23
 ·rw [Array.getElem?_setIfInBounds_ne (by decide)];exact h24
 ·rintro k (rfl | e)
  ·exact .inl hBF
  ·exact (hnew k e).imp (fun e=>hF k (.inr e)) id
theorem cb_at {w0 W:World} {F:Nat→Prop} {B:Nat} {x:Array Value} {ops:List OpD} (h:BS w0 W F B x ops) (p r:List Int) (Ap Ar:Option Addr) (cp cr:Nat) (hp:IntsR W (Lt W.heap.size) p (.slice Ap p.length cp)) (hr:IntsR W (Lt W.heap.size) r (.slice Ar r.length cr)) (hl:p.length + r.length≤100000) :
  Calls Tryz.prog 42 #[.pointer (some ⟨B,0,none⟩),.slice Ap p.length cp,.slice Ar r.length cr] W fun e w'=>e = .returned (.pointer (some ⟨B,0,none⟩))∧BA w0 w' B x ops (p ++ r) []:=by
 obtain ⟨arr,b,vo,ho,hz,h6,h20,hown,hBb,hb,h23,h24,hF⟩:=h.ex
 refine (bat_any B arr p r Ap Ar cp cr W ho hz hp hr hl).mono ?_
 rintro e w' ⟨vp,rfl,ho',hv,hkp⟩
 have hlo:=h.lo B (hF B (.inl rfl))
 have hlt:=ho.lt
 refine ⟨rfl,h.below.trans (hkp.below h.below.size (fun k e=>by rw [e];exact hlo)),hlo,_,vo,vp,.slice none 0 0,ho',by simpa using hz,fun j hj=>?_,?_,?_,?_,keepB hkp (hown.rows.keep (fun _ _=>rfl) (fun k hk=>⟨Nat.lt_of_lt_of_le hBb hk.1,hk.2⟩)),hv.keep (fun _ _=>rfl) (fun k hk=>⟨Nat.lt_of_lt_of_le hlt hk.1,hk.2⟩),SliceR.nil_ 0 (Nat.zero_le _) none⟩
 ·rw [Array.getElem?_setIfInBounds_ne (by omega),Array.getElem?_setIfInBounds_ne (by omega)];exact h6 j hj
 ·rw [Array.getElem?_setIfInBounds_ne (by decide),Array.getElem?_setIfInBounds_ne (by decide)];exact h20
 ·rw [Array.getElem?_setIfInBounds_ne (by decide),Array.getElem?_setIfInBounds_self_of_lt (by omega)]
 ·rw [Array.getElem?_setIfInBounds_self_of_lt (by simp;omega)]
theorem cb_at2 {w0 W:World} {B:Nat} {x:Array Value} {ops:List OpD} {ap am:List Int} (h:BA w0 W B x ops ap am) (p r:List Int) (Ap Ar:Option Addr) (cp cr:Nat) (hp:IntsR W (Lt W.heap.size) p (.slice Ap p.length cp)) (hr:IntsR W (Lt W.heap.size) r (.slice Ar r.length cr)) (hl:p.length + r.length≤100000) :
  Calls Tryz.prog 42 #[.pointer (some ⟨B,0,none⟩),.slice Ap p.length cp,.slice Ar r.length cr] W fun e w'=>e = .returned (.pointer (some ⟨B,0,none⟩))∧BA w0 w' B x ops (p ++ r) []:=by
 obtain ⟨arr,vo,vap,vam,ho,hz,h6,h20,h23,h24,hops,hap,ham⟩:=h.ex
 refine (bat_any B arr p r Ap Ar cp cr W ho hz hp hr hl).mono ?_
 rintro e w' ⟨vp,rfl,ho',hv,hkp⟩
 have hlo:=h.lo
 have hlt:=ho.lt
 refine ⟨rfl,h.below.trans (hkp.below h.below.size (fun k e=>by rw [e];exact hlo)),hlo,_,vo,vp,.slice none 0 0,ho',by simpa using hz,fun j hj=>?_,?_,?_,?_,keepB hkp hops,hv.keep (fun _ _=>rfl) (fun k hk=>⟨Nat.lt_of_lt_of_le hlt hk.1,hk.2⟩),SliceR.nil_ 0 (Nat.zero_le _) none⟩
 ·rw [Array.getElem?_setIfInBounds_ne (by omega),Array.getElem?_setIfInBounds_ne (by omega)];exact h6 j hj
 ·rw [Array.getElem?_setIfInBounds_ne (by decide),Array.getElem?_setIfInBounds_ne (by decide)];exact h20
 ·rw [Array.getElem?_setIfInBounds_ne (by decide),Array.getElem?_setIfInBounds_self_of_lt (by omega)]
 ·rw [Array.getElem?_setIfInBounds_self_of_lt (by simp;omega)]
def RecB (w0:World) (r:RecD × Int) (e:Ending) (w':World):Prop :=
 ∃ Ao co Ap cp Am cm Aap cap Aam cam,e = .returned (.tuple #[.agg #[.slice Ao r.1.ops.length co,.slice Ap r.1.bp.length cp,.slice Am r.1.bm.length cm,.slice Aap r.1.ap.length cap,.slice Aam r.1.am.length cam],.int .i64 r.2])∧SliceR opE w' (Lt w'.heap.size) r.1.ops (.slice Ao r.1.ops.length co)∧IntsR w' (Lt w'.heap.size) r.1.bp (.slice Ap r.1.bp.length cp)∧IntsR w' (Lt w'.heap.size) r.1.bm (.slice Am r.1.bm.length cm)∧IntsR w' (Lt w'.heap.size) r.1.ap (.slice Aap r.1.ap.length cap)∧IntsR w' (Lt w'.heap.size) r.1.am (.slice Aam r.1.am.length cam)∧Below w0.heap.size w0 w'
def RecF (w0:World) (r:RecD × Int) (e:Ending) (w':World):Prop :=
 ∃ Ao co Ap cp Am cm Aap cap Aam cam,e = .returned (.tuple #[.agg #[.slice Ao r.1.ops.length co,.slice Ap r.1.bp.length cp,.slice Am r.1.bm.length cm,.slice Aap r.1.ap.length cap,.slice Aam r.1.am.length cam],.int .i64 r.2])∧SliceR opE w' (fun k=>w0.heap.size≤k∧k < w'.heap.size) r.1.ops (.slice Ao r.1.ops.length co)∧IntsR w' (fun k=>w0.heap.size≤k∧k < w'.heap.size) r.1.bp (.slice Ap r.1.bp.length cp)∧IntsR w' (fun k=>w0.heap.size≤k∧k < w'.heap.size) r.1.bm (.slice Am r.1.bm.length cm)∧IntsR w' (fun k=>w0.heap.size≤k∧k < w'.heap.size) r.1.ap (.slice Aap r.1.ap.length cap)∧IntsR w' (fun k=>w0.heap.size≤k∧k < w'.heap.size) r.1.am (.slice Aam r.1.am.length cam)∧Below w0.heap.size w0 w'
theorem cb_done {w0 W:World} {B:Nat} {x:Array Value} {ops:List OpD} {ap am:List Int} (h:BA w0 W B x ops ap am) (t:Tree) (p m:List Int) (A Ap Am:Option Addr) (cap cp cm:Nat)
  (h0:x[0]? = some (.int .i64 t.kind)) (h1:x[1]? = some (.string t.text)) (h2:x[2]? = some (.int .i64 t.cols)) (h3:x[3]? = some (.slice A t.kids.length cap)) (h4:x[4]? = some (.slice Ap p.length cp)) (h5:x[5]? = some (.slice Am m.length cm))
  (hv:SliceR treeE W (Lt W.heap.size) t.kids (.slice A t.kids.length cap)) (hok:NodeOk t) (hct:countS t≤900000) (hp:IntsR W (Lt W.heap.size) p (.slice Ap p.length cp)) (hm:IntsR W (Lt W.heap.size) m (.slice Am m.length cm)) (hpl:p.length≤1000000) (hml:m.length≤1000000) (hol:ops.length≤1000) :
  Calls Tryz.prog 43 #[.pointer (some ⟨B,0,none⟩)] W (RecF w0 (doneR t p m ops ap am)):=by
 obtain ⟨arr,vo,vap,vam,ho,hz,h6,h20,h23,h24,hops,hap,ham⟩:=h.ex
 obtain ⟨Ao,co,rfl⟩:=hops.form
 refine (done_any B arr t p m ap am ops A Ap Am Ao cap cp cm co vap vam W ho hz ((h6 0 (by decide)).trans h0) ((h6 1 (by decide)).trans h1) ((h6 2 (by decide)).trans h2) ((h6 3 (by decide)).trans h3) ((h6 4 (by decide)).trans h4) ((h6 5 (by decide)).trans h5) h20 h23 h24 hv hok hct hp hm hpl hml hops hol hap ham).mono ?_
 rintro e w' ⟨vo,vbp,vbm,vap,vam,rfl,r1,r2,r3,r4,r5,hk⟩
 obtain ⟨A1,c1,rfl⟩:=r1.form
 obtain ⟨A2,c2,rfl⟩:=r2.form
 obtain ⟨A3,c3,rfl⟩:=r3.form
 obtain ⟨A4,c4,rfl⟩:=r4.form
 obtain ⟨A5,c5,rfl⟩:=r5.form
 have hlo:=h.lo
 have kn:∀ {α:Type} {E:Enc α} {xs:List α} {v:Value},SliceR E w' (fun k=>B < k∧k < w'.heap.size) xs v→SliceR E w' (fun k=>w0.heap.size≤k∧k < w'.heap.size) xs v:=fun h=>h.keep (fun _ _=>rfl) (fun k hk=>⟨Nat.le_trans hlo (Nat.le_of_lt hk.1),hk.2⟩)
 exact ⟨A1,c1,A2,c2,A3,c3,A4,c4,A5,c5,rfl,kn r1,kn r2,kn r3,kn r4,kn r5,h.below.trans (hk.below h.below.size (fun k e=>by rw [e];exact h.lo))⟩
theorem RecB.store {w0:World} {r:RecD × Int} {e:Ending} {w' w2:World} {g:Nat} (h:RecB w0 r e w') (hs:SlB w' g) (hk:∀ k,k≠g→w2.heap[k]? = w'.heap[k]?) (hz:w2.heap.size = w'.heap.size) (hb:Below w0.heap.size w0 w2):RecB w0 r e w2:=by
 obtain ⟨A1,c1,A2,c2,A3,c3,A4,c4,A5,c5,rfl,r1,r2,r3,r4,r5,_⟩:=h
 have ki:∀ {xs:List Int} {v:Value},IntsR w' (Lt w'.heap.size) xs v→IntsR w2 (Lt w2.heap.size) xs v:=fun h=>(ints_av hs h).keep (fun q hq=>World.cell?_of_block (hk _ hq.2)) (fun k hk=>by unfold Lt;rw [hz];exact hk.1)
 exact ⟨A1,c1,A2,c2,A3,c3,A4,c4,A5,c5,rfl,(ops_av hs r1).keep (fun q hq=>World.cell?_of_block (hk _ hq.2)) (fun k hk=>by unfold Lt;rw [hz];exact hk.1),ki r2,ki r3,ki r4,ki r5,hb⟩
theorem RecF.store {w0:World} {r:RecD × Int} {e:Ending} {w' w2:World} {g:Nat} (h:RecF w0 r e w') {w1:World} (hz1:w1.heap.size≤w0.heap.size) (hs:SlB w' g) (hk:∀ k,k≠g→w2.heap[k]? = w'.heap[k]?) (hz:w2.heap.size = w'.heap.size) (hb:Below w1.heap.size w1 w2):RecF w1 r e w2:=by
 obtain ⟨A1,c1,A2,c2,A3,c3,A4,c4,A5,c5,rfl,r1,r2,r3,r4,r5,_⟩:=h
 have ki:∀ {xs:List Int} {v:Value},IntsR w' (fun k=>w0.heap.size≤k∧k < w'.heap.size) xs v→IntsR w2 (fun k=>w1.heap.size≤k∧k < w2.heap.size) xs v:=fun h=>(ints_av hs h).keep (fun q hq=>World.cell?_of_block (hk _ hq.2)) (fun k hk=>⟨Nat.le_trans hz1 hk.1.1,by rw [hz];exact hk.1.2⟩)
 exact ⟨A1,c1,A2,c2,A3,c3,A4,c4,A5,c5,rfl,(ops_av hs r1).keep (fun q hq=>World.cell?_of_block (hk _ hq.2)) (fun k hk=>⟨Nat.le_trans hz1 hk.1.1,by rw [hz];exact hk.1.2⟩),ki r2,ki r3,ki r4,ki r5,hb⟩
theorem forms_sub (k : Int) {a b : List Tree} (h : a.Sublist b) : formsS k b = true → formsS k a = true ∧ countsS a ≤ countsS b ∧ depthsS a ≤ depthsS b := by
  induction h with
  | slnil => exact fun h => ⟨h, Nat.le_refl _, Nat.le_refl _⟩
  | cons x _ ih =>
    intro h
    rw [formsS_cons] at h
    simp only [Bool.and_eq_true] at h
    obtain ⟨h1, h2, h3⟩ := ih h.2
    exact ⟨h1, by rw [countsS]; omega, by rw [depthsS]; omega⟩
  | cons_cons x _ ih =>
    intro h
    rw [formsS_cons] at h
    simp only [Bool.and_eq_true] at h
    obtain ⟨h1, h2, h3⟩ := ih h.2
    refine ⟨by rw [formsS_cons]; simp only [Bool.and_eq_true]; exact ⟨h.1, h1⟩, by rw [countsS, countsS]; omega, by rw [depthsS, depthsS]; omega⟩
theorem row_sub {a b:List Tree} (h:a.Sublist b) (hf:formS (rowT b) = true):formS (rowT a) = true∧countS (rowT a)≤countS (rowT b)∧depthS (rowT a)≤depthS (rowT b):=by
 unfold rowT at *
 rw [formS] at hf ⊢
 simp only [Bool.and_eq_true] at hf ⊢
 obtain ⟨h1,h2,h3⟩:=forms_sub 1 h hf.2
 have hl:=h.length_le
 refine ⟨⟨⟨hf.1.1,?_⟩,h1⟩,by rw [countS,countS];omega,by rw [depthS,depthS];omega⟩
 have h4:=hf.1.2
 simp [kidsS] at h4 ⊢
 omega
theorem formsS_set (k : Int) : (ts : List Tree) → (i : Nat) → (x : Tree) → (hi : i < ts.length) → formsS k ts = true → formS x = true → (x.kind == 1) = (ts[i].kind == 1) → formsS k (ts.set i x) = true
  | t :: ts, 0, x, _, h, hx, hk => by
    simp only [List.getElem_cons_zero] at hk
    rw [List.set_cons_zero, formsS_cons, hk, hx]
    rw [formsS_cons] at h
    simp only [Bool.and_eq_true] at h ⊢
    exact ⟨⟨h.1.1, trivial⟩, h.2⟩
  | t :: ts, i + 1, x, hi, h, hx, hk => by
    rw [List.set_cons_succ, formsS_cons]
    rw [formsS_cons] at h
    simp only [Bool.and_eq_true] at h ⊢
    exact ⟨h.1, formsS_set k ts i x (by simpa using hi) h.2 hx (by simpa using hk)⟩
theorem depthsS_set : (ts : List Tree) → (i : Nat) → (x : Tree) → (hi : i < ts.length) → depthS x ≤ depthS ts[i] → depthsS (ts.set i x) ≤ depthsS ts
  | t :: ts, 0, x, _, h => by simp only [List.getElem_cons_zero, List.set_cons_zero, depthsS] at *; omega
  | t :: ts, i + 1, x, hi, h => by
    have := depthsS_set ts i x (by simpa using hi) (by simpa using h)
    simp only [List.set_cons_succ, depthsS]; omega
theorem replS_le {t:Tree} {i:Nat} {x:Tree} (hi:i < t.kids.length) (hf:formS t = true) (hx:formS x = true) (hk:(x.kind == 1) = (t.kids[i].kind == 1)) (hc:countS x≤countS t.kids[i]) (hd:depthS x≤depthS t.kids[i]):formS (replS t i x) = true∧countS (replS t i x)≤countS t∧depthS (replS t i x)≤depthS t:=by
 obtain ⟨k,s,c,ts⟩:=t
 simp only [replS,Tree.kind,Tree.text,Tree.cols,Tree.kids] at *
 rw [formS] at hf ⊢
 simp only [Bool.and_eq_true,List.length_set] at hf ⊢
 have h1:=countsS_set ts i x hi
 have h2:=depthsS_set ts i x hi hd
 exact ⟨⟨hf.1,formsS_set k ts i x hi hf.2 hx hk⟩,by rw [countS,countS];omega,by rw [depthS,depthS];omega⟩
theorem putS_le : (p : List Int) → (t : Tree) → (l : List Tree) → (findS t p).2 = true → formS t = true → t.kind = 1 → formS (rowT l) = true → countS (rowT l) ≤ countS (findS t p).1 → depthS (rowT l) ≤ depthS (findS t p).1 → (putS t p l).kind = 1 ∧ formS (putS t p l) = true ∧ countS (putS t p l) ≤ countS t ∧ depthS (putS t p l) ≤ depthS t
  | [], t, l, _, hf, hk, hl, hc, hd => ⟨rfl, hl, hc, hd⟩
  | [_], t, l, h, _, _, _, _, _ => by simp [findS] at h
  | i :: k :: p, t, l, h, hf, hk, hl, hc, hd => by
    obtain ⟨hi, hk', he⟩ := find_step t i k p h
    rw [he] at h hc hd
    have f1 := formS_kid hf hi.2
    rw [← kid_get hi.2, hk] at f1
    have f2 := formS_kid f1.1 hk'.2
    rw [← kid_get hk'.2, f1.2] at f2
    obtain ⟨g1, g2, g3, g4⟩ := putS_le p _ l h f2.1 (by have := f2.2; simpa using this) hl hc hd
    have e1 : putS t (i :: k :: p) l = replS t i.toNat (replS (kidS t i) k.toNat (putS (kidS (kidS t i) k) p l)) := by rw [putS]
    rw [e1]
    obtain ⟨r1, r2, r3⟩ := replS_le (t := kidS t i) (i := k.toNat) (x := putS (kidS (kidS t i) k) p l) hk'.2 f1.1 g2 (by rw [← kid_get hk'.2, f2.2, g1]; rfl) (by rw [← kid_get hk'.2]; exact g3) (by rw [← kid_get hk'.2]; exact g4)
    obtain ⟨q1, q2, q3⟩ := replS_le (t := t) (i := i.toNat) (x := replS (kidS t i) k.toNat (putS (kidS (kidS t i) k) p l)) hi.2 hf r1 (by rw [← kid_get hi.2]; rfl) (by rw [← kid_get hi.2]; exact r2) (by rw [← kid_get hi.2]; exact r3)
    exact ⟨hk, q1, q2, q3⟩
theorem find_depth : (p : List Int) → (t : Tree) → (findS t p).2 = true → depthS (findS t p).1 ≤ depthS t
  | [], t, _ => Nat.le_refl _
  | [_], t, h => by simp [findS] at h
  | i :: k :: p, t, h => by
    obtain ⟨hi, hk, he⟩ := find_step t i k p h
    rw [he] at h ⊢
    have h1 := find_depth p _ h
    have h2 := depthS_get hi.2
    rw [← kid_get hi.2] at h2
    have h3 := depthS_get hk.2
    rw [← kid_get hk.2] at h3
    omega
theorem put_sub {t:Tree} {q:List Int} {its l:List Tree} (hv:validS t = true) (hf:(findS t q).2 = true) (hi:its = (findS t q).1.kids) (h:l.Sublist its):validS (putS t q l) = true:=by
 obtain ⟨v1,v2,v3,v4⟩:=valid_count hv
 have hr:=find_rowT hv hf
 have f:=(find_formS q t hf v3 v2).1
 rw [hr,← hi] at f
 obtain ⟨s1,s2,s3⟩:=row_sub h f
 have e:rowT its = (findS t q).1:=by rw [hi,← hr]
 rw [e] at s2 s3
 obtain ⟨g1,g2,g3,g4⟩:=putS_le q t l hf v3 v2 s1 s2 s3
 unfold validS
 simp only [Bool.and_eq_true,decide_eq_true_eq,g1,g2]
 exact ⟨⟨⟨rfl,trivial⟩,by omega⟩,by omega⟩
theorem items_valid {t:Tree} {q:List Int} {its l:List Tree} (hv:validS t = true) (hf:(findS t q).2 = true) (hi:its = (findS t q).1.kids) (h:l.Sublist its):validS (rowT l) = true:=by
 obtain ⟨v1,v2,v3,v4⟩:=valid_count hv
 have hr:=find_rowT hv hf
 have f:=(find_formS q t hf v3 v2).1
 rw [hr,← hi] at f
 obtain ⟨s1,s2,s3⟩:=row_sub h f
 have e:rowT its = (findS t q).1:=by rw [hi,← hr]
 rw [e] at s2 s3
 have:=find_count t q
 have:=find_depth q t hf
 unfold validS
 simp only [Bool.and_eq_true,decide_eq_true_eq,s1]
 exact ⟨⟨⟨rfl,trivial⟩,by omega⟩,by omega⟩
theorem applyS_of {t:Tree} {op:OpD} {l:List Tree} (hv:validS t = true) (hf:(findS t op.row).2 = true) (ho:formedS op = true) (hc:changeS (findS t op.row).1.kids op = (l,0)) (hv':validS (putS t op.row l) = true):applyS t op = (putS t op.row l,0):=by
 unfold applyS
 rw [rowRes_ok hv hf]
 simp only [hc]
 rw [if_neg (by simp [hv]),if_neg (by simp [ho]),if_neg (by simp),if_neg (by simp),if_neg (by simp [hv'])]
theorem done_one {t m:Tree} {p mk pos:List Int} {op:OpD} (hv:validS t = true) (h:applyS t op = (m,0)):doneS t p mk [op] pos = (⟨[op],p,mk,pos,[]⟩,0)∧applyAllS t [op] = (m,0):=by
 have e:applyAllS t [op] = (m,0):=by
  unfold applyAllS goS
  rw [if_neg (by simp [hv]),h,if_neg (by simp)]
  rfl
 refine ⟨?_,e⟩
 unfold doneS
 rw [e,if_pos rfl]
theorem sub_one {its:List Tree} {a:Nat} (ha:a < its.length):[its[a]].Sublist its:=List.singleton_sublist.2 (List.getElem_mem ha)
theorem sub_splice (its:List Tree) (a:Nat):(spliceS its a (a + 1) []).Sublist its:=by
 unfold spliceS
 rw [List.append_nil]
 have h:=List.Sublist.append (List.Sublist.refl (its.take a)) (List.drop_sublist_drop_left its (Nat.le_succ a))
 rwa [List.take_append_drop] at h
theorem noT_empty:noT.toList.isEmpty = true:=by rw [show noT.toList = [] by unfold noT ByteArray.toList ByteArray.toList.loop;rfl];rfl
theorem unw_apply {t:Tree} {q:List Int} {its:List Tree} {a s:Nat} (hv:validS t = true) (hf:(findS t q).2 = true) (hi:its = (findS t q).1.kids) (ha:a < its.length) (hs:s < its[a].kids.length) (he:its[a].kids[s] = rowT []):applyS t (unwS ⟨q,(a:Int),(s:Int),its[a]⟩) = (putS t q (spliceS its a (a + 1) []),0):=by
 have hk:kidS its[a] (s:Int) = rowT []:=by rw [kid_get (by simpa using hs)];simpa using he
 have hfi:filledS its[a] s [] = its[a]:=by
  unfold filledS replS
  rw [← he,List.set_getElem_self]
  cases its[a];rfl
 have hop:unwS ⟨q,(a:Int),(s:Int),its[a]⟩ = ⟨4,q,(a:Int),0,[its[a]],(s:Int),noT,noT⟩:=by
  unfold unwS
  simp only [hk,Int.toNat_natCast,hfi]
  rfl
 rw [hop]
 have h:=applyS_of (t:=t) (op:=⟨4,q,(a:Int),0,[its[a]],(s:Int),noT,noT⟩) (l:=spliceS its a (a + 1) []) hv hf ?_ ?_ (put_sub hv hf hi (sub_splice its a))
 ·exact h
 ·unfold formedS templateS
  rw [if_neg (by simp),if_pos (by simp)]
  simp only [Bool.and_eq_true,List.headD_cons]
  refine ⟨by simp,⟨rfl,items_valid hv hf hi (sub_one ha),decide_eq_true (show (0:Int)≤(s:Int) by omega),decide_eq_true (show (s:Int) < (its[a].kids.length:Int) by omega),decide_eq_true (show (kidS its[a] (s:Int)).kids.length = 0 by rw [hk];rfl)⟩,noT_empty,noT_empty⟩
 ·show changeS (findS t q).1.kids _ = _
  rw [← hi]
  have hg:its.getD a zeroT = its[a]:=by rw [List.getD_eq_getElem?_getD,List.getElem?_eq_getElem ha];rfl
  unfold changeS needS
  simp only [Int.toNat_natCast,hg,hk,List.headD_cons]
  rw [if_neg (by simp;omega),if_neg (by decide),if_neg (by decide),if_neg (by decide),if_pos (by trivial),if_neg ?_]
  ·rw [show ((a:Int) + 1).toNat = a + 1 by omega]
   rfl
  ·rintro (h | h | h)
   ·omega
   ·exact h rfl
   ·rw [show (rowT ([]:List Tree)).kids = [] from rfl,hfi,(eqS_iff _ _).2 rfl] at h;cases h
theorem er_T (t:Tree) (q:List Int) (o:Int) (b:Bool) {its:List Tree} (hv:validS t = true) (hf:(findS t q).2 = true) (hi:its = (findS t q).1.kids):eraseT t (q ++ [o]) [] b =
  if 0≤(if b then o - 1 else o)∧(if b then o - 1 else o) < (its.length:Int) then
   (if contS (itemD its (if b then o - 1 else o).toNat).kids 0 (-1) = false then doneS t (q ++ [o]) [] [delOp q (if b then o - 1 else o) [itemD its (if b then o - 1 else o).toNat]] (q ++ [if b then o - 1 else o]) else stepE t (q ++ [o]) [] b)
  else match aroS t (q ++ [o]) with
   | some x=>if contS x.item.kids 0 x.own = false then doneS t (q ++ [o]) [] [unwS x] (x.row ++ [if b then x.at_ else x.at_ + (unwS x).n]) else stepE t (q ++ [o]) [] b
   | none=>stepE t (q ++ [o]) [] b:=by
 unfold eraseT
 have e1:(q ++ [o]).dropLast = q:=by simp
 have e2:(q ++ [o]).getLastD 0 = o:=by simp
 rw [e1,e2,rowRes_ok hv hf]
 simp only [← hi] <;> rfl
end Go.Proofs.YtbjcioknfjofkaaGreat
namespace Go.Proofs.YtbjcioknfjofkaaGreat
open Go.RowKit Go.ChangeShapes Go.WideShapes Go.ChangeAt
theorem own:ownKnob Tryz.prog.godebug = none:=by kernel_rfl
theorem laidOut:laidOutB Tryz.prog = true:=by kernel_rfl
theorem rd_node:Tryz.prog.readableRec 24 = true∧24 < Tryz.prog.types.size:=⟨by kernel_rfl,of_decide_eq_true (by kernel_rfl)⟩
section
variable {H:Type} {enc:TypeId × Value→H} {w:World} {base:Nat} {spare:Nat→Bool} {held:Bool}
theorem open_node {r:Reach} {b0:Nat} {v:Value} {d:DataW H} {ps:List MemPlace} (hv:Value.okWide Tryz.prog w r b0 24 v) (h:DataW.Trod enc Tryz.prog w base spare held 24 v d ps) :
  ∃ (t:Tree) (A:Option Addr) (c:Nat),v = .agg #[.int .i64 t.kind,.string t.text,.int .i64 t.cols,.slice A t.kids.length c]∧In64 t.kind∧In64 t.cols∧t.text.size≤maxLen∧TreesS w (Lt w.heap.size) t.kids (.slice A t.kids.length c):=by
 obtain ⟨cs,rfl,hsz⟩:=okWide_struct Tryz.underlying24 hv
 obtain ⟨fuel,hf⟩:=h
 obtain ⟨t,ht⟩:=read_tree fuel _ _ hf
 obtain ⟨v,hcs,h1,h2,h3,h4⟩:=treeR_mk.1 ht
 obtain ⟨A,c,rfl⟩:=h4.form
 refine ⟨t,A,c,?_,h1,h2,h3,h4⟩
 congr 1
 exact Array.toList_inj.1 hcs
end
theorem rd_cursor:Tryz.prog.readableRec 33 = true∧33 < Tryz.prog.types.size:=⟨by kernel_rfl,of_decide_eq_true (by kernel_rfl)⟩
theorem rd_command:Tryz.prog.readableRec 44 = true∧44 < Tryz.prog.types.size:=⟨by kernel_rfl,of_decide_eq_true (by kernel_rfl)⟩
theorem cells_bool:Tryz.prog.cellsOf 4 = 1:=by kernel_rfl
section
variable {H:Type} {enc:TypeId × Value→H} {w:World} {base:Nat} {spare:Nat→Bool} {held:Bool}
theorem read_bool {fuel:Nat} {cs:List Value} {x:DataW H × List MemPlace} (h:DataW.trod enc Tryz.prog w base spare held fuel 4 cs = some x):∃ b,cs = [.bool b]:=by
 obtain ⟨b,rfl,_⟩:=DataW.trod_bool Tryz.underlying4 h
 exact ⟨b,rfl⟩
theorem cells_cursor:Tryz.prog.cellsOf 33 = 2:=by kernel_rfl
theorem read_cursor {fuel : Nat} {cs : List Value} {x : DataW H × List MemPlace} (h : DataW.trod enc Tryz.prog w base spare held fuel 33 cs = some x) : ∃ p m vp vm, cs = [vp, vm] ∧ IntsR w (Lt w.heap.size) p vp ∧ IntsR w (Lt w.heap.size) m vm := by
  obtain ⟨xs, n, hfu, hx, hlen, hxl, hf⟩ := DataW.trod_struct Tryz.underlying33 h
  rw [cells_cursor] at hlen
  match cs, hlen with
  | [c0, c1], _ =>
    have g0 : DataW.trod enc Tryz.prog w base spare held n 31 (([c0, c1].drop 0).take (Tryz.prog.cellsOf 31)) = xs[0]? := hf 0 _ rfl
    rw [cells_ints] at g0
    have f0 : DataW.trod enc Tryz.prog w base spare held n 31 [c0] = xs[0]? := g0
    have g1 : DataW.trod enc Tryz.prog w base spare held n 31 (([c0, c1].drop 1).take (Tryz.prog.cellsOf 31)) = xs[1]? := hf 1 _ rfl
    rw [cells_ints] at g1
    have f1 : DataW.trod enc Tryz.prog w base spare held n 31 [c1] = xs[1]? := g1
    have hxl' : xs.length = 2 := hxl
    obtain ⟨y0, e0⟩ := some_of f0 (by omega)
    obtain ⟨y1, e1⟩ := some_of f1 (by omega)
    obtain ⟨a0, v0, q0, h0⟩ := read_ints e0
    obtain ⟨a1, v1, q1, h1⟩ := read_ints e1
    simp only [List.cons.injEq, and_true] at q0 q1
    subst q0 q1
    exact ⟨a0, a1, _, _, rfl, h0, h1⟩
theorem open_cursor {r:Reach} {b0:Nat} {v:Value} {d:DataW H} {ps:List MemPlace} (hv:Value.okWide Tryz.prog w r b0 33 v) (h:DataW.Trod enc Tryz.prog w base spare held 33 v d ps) :
  ∃ (p m:List Int) (Ap Am:Option Addr) (cp cm:Nat),v = .agg #[.slice Ap p.length cp,.slice Am m.length cm]∧IntsR w (Lt w.heap.size) p (.slice Ap p.length cp)∧IntsR w (Lt w.heap.size) m (.slice Am m.length cm):=by
 obtain ⟨cs,rfl,hsz⟩:=okWide_struct Tryz.underlying33 hv
 obtain ⟨fuel,hf⟩:=h
 obtain ⟨p,m,vp,vm,hcs,h1,h2⟩:=read_cursor hf
 obtain ⟨Ap,cp,rfl⟩:=h1.form
 obtain ⟨Am,cm,rfl⟩:=h2.form
 refine ⟨p,m,Ap,Am,cp,cm,?_,h1,h2⟩
 congr 1
 exact Array.toList_inj.1 hcs
theorem cells_command:Tryz.prog.cellsOf 44 = 5:=by kernel_rfl
theorem read_command {fuel : Nat} {cs : List Value} {x : DataW H × List MemPlace} (h : DataW.trod enc Tryz.prog w base spare held fuel 44 cs = some x) : ∃ (k : Int) (l : List Tree) (vl : Value) (s : Int) (x : ByteArray) (f : Bool), cs = [.int .i64 k, vl, .int .i64 s, .string x, .bool f] ∧ In64 k ∧ TreesS w (Lt w.heap.size) l vl ∧ In64 s ∧ x.size ≤ maxLen := by
  obtain ⟨xs, n, hfu, hx, hlen, hxl, hf⟩ := DataW.trod_struct Tryz.underlying44 h
  rw [cells_command] at hlen
  match cs, hlen with
  | [c0, c1, c2, c3, c4], _ =>
    have g0 : DataW.trod enc Tryz.prog w base spare held n 3 (([c0, c1, c2, c3, c4].drop 0).take (Tryz.prog.cellsOf 3)) = xs[0]? := hf 0 _ rfl
    rw [cells_int] at g0
    have f0 : DataW.trod enc Tryz.prog w base spare held n 3 [c0] = xs[0]? := g0
    have g1 : DataW.trod enc Tryz.prog w base spare held n 22 (([c0, c1, c2, c3, c4].drop 1).take (Tryz.prog.cellsOf 22)) = xs[1]? := hf 1 _ rfl
    rw [cells_nodes] at g1
    have f1 : DataW.trod enc Tryz.prog w base spare held n 22 [c1] = xs[1]? := g1
    have g2 : DataW.trod enc Tryz.prog w base spare held n 3 (([c0, c1, c2, c3, c4].drop 2).take (Tryz.prog.cellsOf 3)) = xs[2]? := hf 2 _ rfl
    rw [cells_int] at g2
    have f2 : DataW.trod enc Tryz.prog w base spare held n 3 [c2] = xs[2]? := g2
    have g3 : DataW.trod enc Tryz.prog w base spare held n 9 (([c0, c1, c2, c3, c4].drop 3).take (Tryz.prog.cellsOf 9)) = xs[3]? := hf 3 _ rfl
    rw [cells_str] at g3
    have f3 : DataW.trod enc Tryz.prog w base spare held n 9 [c3] = xs[3]? := g3
    have g4 : DataW.trod enc Tryz.prog w base spare held n 4 (([c0, c1, c2, c3, c4].drop 4).take (Tryz.prog.cellsOf 4)) = xs[4]? := hf 4 _ rfl
    rw [cells_bool] at g4
    have f4 : DataW.trod enc Tryz.prog w base spare held n 4 [c4] = xs[4]? := g4
    have hxl' : xs.length = 5 := hxl
    obtain ⟨y0, e0⟩ := some_of f0 (by omega)
    obtain ⟨y1, e1⟩ := some_of f1 (by omega)
    obtain ⟨y2, e2⟩ := some_of f2 (by omega)
    obtain ⟨y3, e3⟩ := some_of f3 (by omega)
    obtain ⟨y4, e4⟩ := some_of f4 (by omega)
    obtain ⟨a0, q0, h0⟩ := read_int e0
    obtain ⟨a1, v1, q1, h1⟩ := read_nodes e1
    obtain ⟨a2, q2, h2⟩ := read_int e2
    obtain ⟨a3, q3, h3⟩ := read_str e3
    obtain ⟨a4, q4⟩ := read_bool e4
    simp only [List.cons.injEq, and_true] at q0 q1 q2 q3 q4
    subst q0 q1 q2 q3 q4
    exact ⟨a0, a1, _, a2, a3, a4, rfl, h0, h1, h2, h3⟩
theorem open_command {r:Reach} {b0:Nat} {v:Value} {d:DataW H} {ps:List MemPlace} (hv:Value.okWide Tryz.prog w r b0 44 v) (h:DataW.Trod enc Tryz.prog w base spare held 44 v d ps) :
  ∃ (k:Int) (l:List Tree) (An:Option Addr) (cn:Nat) (s:Int) (x:ByteArray) (f:Bool),v = .agg #[.int .i64 k,.slice An l.length cn,.int .i64 s,.string x,.bool f]∧In64 k∧TreesS w (Lt w.heap.size) l (.slice An l.length cn)∧In64 s∧x.size≤maxLen:=by
 obtain ⟨cs,rfl,hsz⟩:=okWide_struct Tryz.underlying44 hv
 obtain ⟨fuel,hf⟩:=h
 obtain ⟨k,l,vl,s,x,f,hcs,h1,h2,h3,h4⟩:=read_command hf
 obtain ⟨An,cn,rfl⟩:=h2.form
 refine ⟨k,l,An,cn,s,x,f,?_,h1,h2,h3,h4⟩
 congr 1
 exact Array.toList_inj.1 hcs
end
end Go.Proofs.YtbjcioknfjofkaaGreat
