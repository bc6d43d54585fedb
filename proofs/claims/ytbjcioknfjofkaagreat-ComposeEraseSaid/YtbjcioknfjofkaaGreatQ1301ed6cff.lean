/- Texts put together. -/
import Derived.Test.YtbjcioknfjofkaaGreatQfe3dc0b62f
import Derived.Test.YtbjcioknfjofkaaGreatQ5a422e823d
import Derived.Test.YtbjcioknfjofkaaGreatQ738aa96999
import Derived.Test.YtbjcioknfjofkaaGreatQf027d70dc5
import Derived.Test.YtbjcioknfjofkaaGreatQf4e4b08f38
import Derived.Deep.RegionHeld3
import Derived.Laws.ResultCell
import Derived.Laws.OwnMore
set_option linter.unusedVariables false
set_option linter.unusedSimpArgs false
set_option maxRecDepth 100000
namespace Go.Proofs.YtbjcioknfjofkaaGreat
open Go.RowKit
def NF (F:Nat→Prop) (W:World) (k:Nat):Prop:=k < W.heap.size∧¬ F k
structure Stp (F F':Nat→Prop) (W W':World):Prop where
 kept:Kept F W W'
 new:∀ k,F' k→F k∨W.heap.size≤k
theorem Stp.of_bl {F:Nat→Prop} {W W':World} (h:Below W.heap.size W W'):Stp F F W W':=⟨Kept.of_below h _,fun _ h=>.inl h⟩
theorem Stp.keep {α:Type} {E:Enc α} {F F':Nat→Prop} {W W':World} {xs:List α} {v:Value} (h:Stp F F' W W') (hr:zAa E W (NF F W) xs v):zAa E W' (NF F' W') xs v :=
 hr.keep (fun q hq=>h.kept.cell hq.1 hq.2) (fun k hk=>⟨Nat.lt_of_lt_of_le hk.1 h.kept.size,fun e=>(h.new k e).elim hk.2 (fun e=>absurd hk.1 (by omega))⟩)
theorem zBo {α:Type} {E:Enc α} {F:Nat→Prop} {W W':World} {xs:List α} {v:Value} (h:Below W.heap.size W W') (hr:zAa E W (NF F W) xs v):zAa E W' (NF F W') xs v:=(Stp.of_bl h).keep hr
theorem zC5 {α:Type} {E:Enc α} {F:Nat→Prop} {W:World} {xs:List α} {v:Value} (hr:zAa E W (NF F W) xs v):zAa E W (Lt W.heap.size) xs v:=hr.keep (fun _ _=>rfl) (fun k hk=>hk.1)
theorem zPr (X:World) (is:List Int) (T:TypeId) (h64:∀ i ∈ is,In64 i) (hl:is.length≤maxLen):zAh (X.alloc (.cells (is.map (.int .i64 ·)).toArray T)) (fun k=>k = X.heap.size) is (.slice (some ⟨X.heap.size,0,none⟩) is.length is.length):=by
 refine ⟨_,_,is.map (.int .i64 ·),rfl,Nat.le_refl _,hl,fun _=>⟨X.heap.size,0,rfl,rfl,fun j u hu=>?_⟩,zB3.2 ⟨rfl,h64⟩⟩
 rw [Nat.zero_add,World.cell?_alloc_new]
 simpa using hu
theorem zGm {F F':Nat→Prop} {X W':World} {T:TypeId} (is:List Int) (h64:∀ i ∈ is,In64 i) (hl:is.length≤maxLen) (hF:∀ k,F k→k < X.heap.size) (hs:Stp F F' (X.alloc (.cells (is.map (.int .i64 ·)).toArray T)) W'):zAh W' (NF F' W') is (.slice (some ⟨X.heap.size,0,none⟩) is.length is.length) :=
 hs.keep ((zPr X is T h64 hl).keep (fun _ _=>rfl) (fun k hk=>by subst hk;exact ⟨by simp,fun e=>absurd (hF _ e) (Nat.lt_irrefl _)⟩))
theorem zNu (X:World) (is:List Int) (T:TypeId) (h64:∀ i ∈ is,In64 i) (hl:is.length≤maxLen):zAh (X.alloc (.cells (is.map (.int .i64 ·)).toArray T)) (Lt (X.alloc (.cells (is.map (.int .i64 ·)).toArray T)).heap.size) is (.slice (some ⟨X.heap.size,0,none⟩) is.length is.length) :=
 (zPr X is T h64 hl).keep (fun _ _=>rfl) (fun k hk=>by subst hk;unfold Lt;simp)
structure BS (w0 W:World) (F:Nat→Prop) (B:Nat) (x:Array Value) (ops:List OpD):Prop where
 below:Below w0.heap.size w0 W
 lo:∀ k,F k→w0.heap.size≤k
 hi:∀ k,F k→k < W.heap.size
 ex:∃ arr b vo,zAc W B (.cells arr 102)∧arr.size = 25∧(∀ j,j < 6→arr[j]? = x[j]?)∧arr[20]? = some vo∧OwnE opE 67 W b ops vo∧B < b∧b≤W.heap.size∧arr[23]? = some (.slice none 0 0)∧arr[24]? = some (.slice none 0 0)∧∀ k,(k = B∨some k = vo.ownBlock)→F k
theorem BS.bl {w0 W W':World} {F:Nat→Prop} {B:Nat} {x:Array Value} {ops:List OpD} (h:BS w0 W F B x ops) (hb:Below W.heap.size W W'):BS w0 W' F B x ops:=by
 obtain ⟨arr,b,vo,ho,h1,h2,h3,h4,h5,h6,h7,h8,h9⟩:=h.ex
 exact ⟨h.below.trans (hb.mono h.below.size),h.lo,fun k hk=>Nat.lt_of_lt_of_le (h.hi k hk) hb.size,arr,b,vo,ho.below hb,h1,h2,h3,h4.below hb,h5,Nat.le_trans h6 hb.size,h7,h8,h9⟩
structure BA (w0 W:World) (B:Nat) (x:Array Value) (ops:List OpD) (ap am:List Int):Prop where
 below:Below w0.heap.size w0 W
 lo:w0.heap.size≤B
 ex:∃ arr vo vap vam,zAc W B (.cells arr 102)∧arr.size = 25∧(∀ j,j < 6→arr[j]? = x[j]?)∧arr[20]? = some vo∧arr[23]? = some vap∧arr[24]? = some vam∧zAa opE W (fun k=>B < k∧k < W.heap.size) ops vo∧zAh W (fun k=>B < k∧k < W.heap.size) ap vap∧zAh W (fun k=>B < k∧k < W.heap.size) am vam
theorem keepB {α:Type} {E:Enc α} {W W':World} {B:Nat} {xs:List α} {v:Value} (h:Kept (fun k=>k = B) W W') (hr:zAa E W (fun k=>B < k∧k < W.heap.size) xs v):zAa E W' (fun k=>B < k∧k < W'.heap.size) xs v :=
 hr.keep (fun q hq=>h.cell hq.2 (Nat.ne_of_gt hq.1)) (fun k hk=>⟨hk.1,Nat.lt_of_lt_of_le hk.2 h.size⟩)
theorem BA.bl {w0 W W':World} {B:Nat} {x:Array Value} {ops:List OpD} {ap am:List Int} (h:BA w0 W B x ops ap am) (hb:Below W.heap.size W W'):BA w0 W' B x ops ap am:=by
 obtain ⟨arr,vo,vap,vam,ho,h1,h2,h3,h4,h5,h6,h7,h8⟩:=h.ex
 exact ⟨h.below.trans (hb.mono h.below.size),h.lo,arr,vo,vap,vam,ho.below hb,h1,h2,h3,h4,h5,keepB (Kept.of_below hb _) h6,keepB (Kept.of_below hb _) h7,keepB (Kept.of_below hb _) h8⟩
theorem zEx (x0 x1 x2 x3 x4 x5 x6 x7 x8 x9 x10 x11 x12 x13 x14 x15 x16 x17 x18 x19:Value) (w0 W:World) (hW:Below w0.heap.size w0 W) :
  Calls Tryz.prog 39 #[.agg #[x0,x1,x2,x3,x4,x5,x6,x7,x8,x9,x10,x11,x12,x13,x14,x15,x16,x17,x18,x19]] W fun e w'=>∃ B F,e = .returned (.pointer (some ⟨B,0,none⟩))∧BS w0 w' F B #[x0,x1,x2,x3,x4,x5,x6,x7,x8,x9,x10,x11,x12,x13,x14,x15,x16,x17,x18,x19] []∧Stp (fun _=>False) F W w':=by
 refine (zQr x0 x1 x2 x3 x4 x5 x6 x7 x8 x9 x10 x11 x12 x13 x14 x15 x16 x17 x18 x19 W).mono ?_
 rintro e w' ⟨B,rfl,hB,ho,hb⟩
 have hs:=hW.size
 refine ⟨B,fun k=>k = B,rfl,⟨hW.trans (hb.mono hs),by rintro k rfl;omega,by rintro k rfl;exact ho.lt,_,B + 1,.slice none 0 0,ho,rfl,fun j hj=>?_,rfl,OwnE.nil _ _,by omega,ho.lt,rfl,rfl,fun k hk=>?_⟩,Kept.of_below hb _,fun k e=>.inr (e ▸ hB)⟩
 ·rcases j with _ | _ | _ | _ | _ | _ | j <;> first | rfl | omega
 ·rcases hk with hk | hk
  ·exact hk
  ·simp [Value.ownBlock] at hk
theorem zIp {w0 W:World} {F:Nat→Prop} {B:Nat} {x:Array Value} {ops:List OpD} (h:BS w0 W F B x ops) (op:OpD) (Ar An:Option Addr) (cr cn:Nat) (hol:ops.length≤1000)
  (hr:zAh W (Lt W.heap.size) op.row (.slice Ar op.row.length cr)) (hn:zAa zAb W (Lt W.heap.size) op.nodes (.slice An op.nodes.length cn)) (hrl:op.row.length≤1000000) (hnc:zAd op.nodes≤1000000) (hk:In64 op.kind) (ha:In64 op.at_) (hn64:In64 op.n) (hs:In64 op.slot) (hot:op.old.size≤maxLen) (htx:op.text.size≤maxLen) :
  Calls Tryz.prog 40 #[.pointer (some ⟨B,0,none⟩),.agg (opC op (.slice Ar op.row.length cr) (.slice An op.nodes.length cn))] W fun e w'=>∃ F',e = .returned (.pointer (some ⟨B,0,none⟩))∧BS w0 w' F' B x (ops ++ [op])∧Stp F F' W w':=by
 obtain ⟨arr,b,vo,ho,hz,h6,h20,hown,hBb,hb,h23,h24,hF⟩:=h.ex
 refine (bop_any B b arr vo ops op Ar An cr cn W ho h20 hown hBb hb hol hr hn hrl hnc hk ha hn64 hs hot htx).mono ?_
 rintro e w' ⟨vo',rfl,ho',hown',hkp,hnew⟩
 have hkF:=hkp.mono (fun k _ e=>hF k e)
 have hBF:=hF B (.inl rfl)
 have hlo:=h.lo B hBF
 refine ⟨fun k=>k = B∨some k = vo'.ownBlock,rfl,⟨h.below.trans (hkF.below h.below.size h.lo),?_,?_,_,b,vo',ho',by simpa using hz,fun j hj=>?_,by rw [Array.getElem?_setIfInBounds_self_of_lt];omega,hown',hBb,Nat.le_trans hb hkp.size,?_,?_,fun k e=>e⟩,hkF,?_⟩
 ·rintro k (rfl | e)
  ·exact hlo
  ·have:=(hown'.own_lt k e.symm).1;omega
 ·rintro k (rfl | e)
  ·exact ho'.lt
  ·exact (hown'.own_lt k e.symm).2
 ·rw [Array.getElem?_setIfInBounds_ne (by omega)];exact h6 j hj
 ·rw [Array.getElem?_setIfInBounds_ne (by decide)];exact h23
 ·rw [Array.getElem?_setIfInBounds_ne (by decide)];exact h24
 ·rintro k (rfl | e)
  ·exact .inl hBF
  ·exact (hnew k e).imp (fun e=>hF k (.inr e)) id
theorem zHc {w0 W:World} {F:Nat→Prop} {B:Nat} {x:Array Value} {ops:List OpD} (h:BS w0 W F B x ops) (p r:List Int) (Ap Ar:Option Addr) (cp cr:Nat) (hp:zAh W (Lt W.heap.size) p (.slice Ap p.length cp)) (hr:zAh W (Lt W.heap.size) r (.slice Ar r.length cr)) (hl:p.length + r.length≤100000) :
  Calls Tryz.prog 42 #[.pointer (some ⟨B,0,none⟩),.slice Ap p.length cp,.slice Ar r.length cr] W fun e w'=>e = .returned (.pointer (some ⟨B,0,none⟩))∧BA w0 w' B x ops (p ++ r) []:=by
 obtain ⟨arr,b,vo,ho,hz,h6,h20,hown,hBb,hb,h23,h24,hF⟩:=h.ex
 refine (bat_any B arr p r Ap Ar cp cr W ho hz hp hr hl).mono ?_
 rintro e w' ⟨vp,rfl,ho',hv,hkp⟩
 have hlo:=h.lo B (hF B (.inl rfl))
 have hlt:=ho.lt
 refine ⟨rfl,h.below.trans (hkp.below h.below.size (fun k e=>by rw [e];exact hlo)),hlo,_,vo,vp,.slice none 0 0,ho',by simpa using hz,fun j hj=>?_,?_,?_,?_,keepB hkp (hown.rows.keep (fun _ _=>rfl) (fun k hk=>⟨Nat.lt_of_lt_of_le hBb hk.1,hk.2⟩)),hv.keep (fun _ _=>rfl) (fun k hk=>⟨Nat.lt_of_lt_of_le hlt hk.1,hk.2⟩),zAa.nil_ 0 (Nat.zero_le _) none⟩
 ·rw [Array.getElem?_setIfInBounds_ne (by omega),Array.getElem?_setIfInBounds_ne (by omega)];exact h6 j hj
 ·rw [Array.getElem?_setIfInBounds_ne (by decide),Array.getElem?_setIfInBounds_ne (by decide)];exact h20
 ·rw [Array.getElem?_setIfInBounds_ne (by decide),Array.getElem?_setIfInBounds_self_of_lt (by omega)]
 ·rw [Array.getElem?_setIfInBounds_self_of_lt (by simp;omega)]
def RecB (w0:World) (r:RecD × Int) (e:Ending) (w':World):Prop :=
 ∃ Ao co Ap cp Am cm Aap cap Aam cam,e = .returned (.tuple #[.agg #[.slice Ao r.1.ops.length co,.slice Ap r.1.bp.length cp,.slice Am r.1.bm.length cm,.slice Aap r.1.ap.length cap,.slice Aam r.1.am.length cam],.int .i64 r.2])∧zAa opE w' (Lt w'.heap.size) r.1.ops (.slice Ao r.1.ops.length co)∧zAh w' (Lt w'.heap.size) r.1.bp (.slice Ap r.1.bp.length cp)∧zAh w' (Lt w'.heap.size) r.1.bm (.slice Am r.1.bm.length cm)∧zAh w' (Lt w'.heap.size) r.1.ap (.slice Aap r.1.ap.length cap)∧zAh w' (Lt w'.heap.size) r.1.am (.slice Aam r.1.am.length cam)∧Below w0.heap.size w0 w'
def RecF (w0:World) (r:RecD × Int) (e:Ending) (w':World):Prop :=
 ∃ Ao co Ap cp Am cm Aap cap Aam cam,e = .returned (.tuple #[.agg #[.slice Ao r.1.ops.length co,.slice Ap r.1.bp.length cp,.slice Am r.1.bm.length cm,.slice Aap r.1.ap.length cap,.slice Aam r.1.am.length cam],.int .i64 r.2])∧zAa opE w' (fun k=>w0.heap.size≤k∧k < w'.heap.size) r.1.ops (.slice Ao r.1.ops.length co)∧zAh w' (fun k=>w0.heap.size≤k∧k < w'.heap.size) r.1.bp (.slice Ap r.1.bp.length cp)∧zAh w' (fun k=>w0.heap.size≤k∧k < w'.heap.size) r.1.bm (.slice Am r.1.bm.length cm)∧zAh w' (fun k=>w0.heap.size≤k∧k < w'.heap.size) r.1.ap (.slice Aap r.1.ap.length cap)∧zAh w' (fun k=>w0.heap.size≤k∧k < w'.heap.size) r.1.am (.slice Aam r.1.am.length cam)∧Below w0.heap.size w0 w'
theorem RecF.weak {w0:World} {r:RecD × Int} {e:Ending} {w':World} (h:RecF w0 r e w'):RecB w0 r e w':=by
 obtain ⟨A1,c1,A2,c2,A3,c3,A4,c4,A5,c5,rfl,r1,r2,r3,r4,r5,hb⟩:=h
 have ki:∀ {xs:List Int} {v:Value},zAh w' (fun k=>w0.heap.size≤k∧k < w'.heap.size) xs v→zAh w' (Lt w'.heap.size) xs v:=fun h=>h.keep (fun _ _=>rfl) (fun k hk=>hk.2)
 exact ⟨A1,c1,A2,c2,A3,c3,A4,c4,A5,c5,rfl,r1.keep (fun _ _=>rfl) (fun k hk=>hk.2),ki r2,ki r3,ki r4,ki r5,hb⟩
theorem cb_done {w0 W:World} {B:Nat} {x:Array Value} {ops:List OpD} {ap am:List Int} (h:BA w0 W B x ops ap am) (t:Tree) (p m:List Int) (A Ap Am:Option Addr) (cap cp cm:Nat)
  (h0:x[0]? = some (.int .i64 t.kind)) (h1:x[1]? = some (.string t.text)) (h2:x[2]? = some (.int .i64 t.cols)) (h3:x[3]? = some (.slice A t.kids.length cap)) (h4:x[4]? = some (.slice Ap p.length cp)) (h5:x[5]? = some (.slice Am m.length cm))
  (hv:zAa zAb W (Lt W.heap.size) t.kids (.slice A t.kids.length cap)) (hok:zAu t) (hct:zAe t≤900000) (hp:zAh W (Lt W.heap.size) p (.slice Ap p.length cp)) (hm:zAh W (Lt W.heap.size) m (.slice Am m.length cm)) (hpl:p.length≤1000000) (hml:m.length≤1000000) (hol:ops.length≤1000) :
  Calls Tryz.prog 43 #[.pointer (some ⟨B,0,none⟩)] W (RecF w0 (zD9 t p m ops ap am)):=by
 obtain ⟨arr,vo,vap,vam,ho,hz,h6,h20,h23,h24,hops,hap,ham⟩:=h.ex
 obtain ⟨Ao,co,rfl⟩:=hops.form
 refine (done_any B arr t p m ap am ops A Ap Am Ao cap cp cm co vap vam W ho hz ((h6 0 (by decide)).trans h0) ((h6 1 (by decide)).trans h1) ((h6 2 (by decide)).trans h2) ((h6 3 (by decide)).trans h3) ((h6 4 (by decide)).trans h4) ((h6 5 (by decide)).trans h5) h20 h23 h24 hv hok hct hp hm hpl hml hops hol hap ham).mono ?_
 rintro e w' ⟨vo,vbp,vbm,vap,vam,rfl,r1,r2,r3,r4,r5,hk⟩
 obtain ⟨A1,c1,rfl⟩:=r1.form
 obtain ⟨A2,c2,rfl⟩:=r2.form
 obtain ⟨A3,c3,rfl⟩:=r3.form
 obtain ⟨A4,c4,rfl⟩:=r4.form
 obtain ⟨A5,c5,rfl⟩:=r5.form
 have hlo:=h.lo
 have kn:∀ {α:Type} {E:Enc α} {xs:List α} {v:Value},zAa E w' (fun k=>B < k∧k < w'.heap.size) xs v→zAa E w' (fun k=>w0.heap.size≤k∧k < w'.heap.size) xs v:=fun h=>h.keep (fun _ _=>rfl) (fun k hk=>⟨Nat.le_trans hlo (Nat.le_of_lt hk.1),hk.2⟩)
 exact ⟨A1,c1,A2,c2,A3,c3,A4,c4,A5,c5,rfl,kn r1,kn r2,kn r3,kn r4,kn r5,h.below.trans (hk.below h.below.size (fun k e=>by rw [e];exact h.lo))⟩
theorem RecB.store {w0:World} {r:RecD × Int} {e:Ending} {w' w2:World} {g:Nat} (h:RecB w0 r e w') (hs:SlB w' g) (hk:∀ k,k≠g→w2.heap[k]? = w'.heap[k]?) (hz:w2.heap.size = w'.heap.size) (hb:Below w0.heap.size w0 w2):RecB w0 r e w2:=by
 obtain ⟨A1,c1,A2,c2,A3,c3,A4,c4,A5,c5,rfl,r1,r2,r3,r4,r5,_⟩:=h
 have ki:∀ {xs:List Int} {v:Value},zAh w' (Lt w'.heap.size) xs v→zAh w2 (Lt w2.heap.size) xs v:=fun h=>(zM1 hs h).keep (fun q hq=>World.cell?_of_block (hk _ hq.2)) (fun k hk=>by unfold Lt;rw [hz];exact hk.1)
 exact ⟨A1,c1,A2,c2,A3,c3,A4,c4,A5,c5,rfl,(ops_av hs r1).keep (fun q hq=>World.cell?_of_block (hk _ hq.2)) (fun k hk=>by unfold Lt;rw [hz];exact hk.1),ki r2,ki r3,ki r4,ki r5,hb⟩
theorem RecF.store {w0:World} {r:RecD × Int} {e:Ending} {w' w2:World} {g:Nat} (h:RecF w0 r e w') {w1:World} (hz1:w1.heap.size≤w0.heap.size) (hs:SlB w' g) (hk:∀ k,k≠g→w2.heap[k]? = w'.heap[k]?) (hz:w2.heap.size = w'.heap.size) (hb:Below w1.heap.size w1 w2):RecF w1 r e w2:=by
 obtain ⟨A1,c1,A2,c2,A3,c3,A4,c4,A5,c5,rfl,r1,r2,r3,r4,r5,_⟩:=h
 have ki:∀ {xs:List Int} {v:Value},zAh w' (fun k=>w0.heap.size≤k∧k < w'.heap.size) xs v→zAh w2 (fun k=>w1.heap.size≤k∧k < w2.heap.size) xs v:=fun h=>(zM1 hs h).keep (fun q hq=>World.cell?_of_block (hk _ hq.2)) (fun k hk=>⟨Nat.le_trans hz1 hk.1.1,by rw [hz];exact hk.1.2⟩)
 exact ⟨A1,c1,A2,c2,A3,c3,A4,c4,A5,c5,rfl,(ops_av hs r1).keep (fun q hq=>World.cell?_of_block (hk _ hq.2)) (fun k hk=>⟨Nat.le_trans hz1 hk.1.1,by rw [hz];exact hk.1.2⟩),ki r2,ki r3,ki r4,ki r5,hb⟩
set_option maxHeartbeats 4000000 in
theorem zOl (op:OpD) (Ar An Ar' An':Option Addr) (cr cn cr' cn':Nat) (w:World) (hr:zAh w (Lt w.heap.size) op.row (.slice Ar op.row.length cr)) (hn:zAa zAb w (Lt w.heap.size) op.nodes (.slice An op.nodes.length cn)) (hr':zAh w (Lt w.heap.size) op.row (.slice Ar' op.row.length cr')) (hn':zAa zAb w (Lt w.heap.size) op.nodes (.slice An' op.nodes.length cn')) :
  Calls Tryz.prog 100 #[.agg (opC op (.slice Ar op.row.length cr) (.slice An op.nodes.length cn)),.agg (opC op (.slice Ar' op.row.length cr') (.slice An' op.nodes.length cn'))] w fun e w'=>e = .returned (.bool true)∧Below w.heap.size w w':=by
 obtain ⟨W0,hW0⟩:∃ W0,(w.alloc (.cells (opC op (.slice Ar op.row.length cr) (.slice An op.nodes.length cn)) 67)).alloc (.cells (opC op (.slice Ar' op.row.length cr') (.slice An' op.nodes.length cn')) 67) = W0:=⟨_,rfl⟩
 have hb0:Below w.heap.size w W0:=by rw [← hW0];exact zAp (blA _ _) _
 have ho1:zAc W0 w.heap.size (.cells (opC op (.slice Ar op.row.length cr) (.slice An op.nodes.length cn)) 67):=by rw [← hW0];exact (zAc.at0 _ _).al _
 have ho2:zAc W0 (w.heap.size + 1) (.cells (opC op (.slice Ar' op.row.length cr') (.slice An' op.nodes.length cn')) 67):=by rw [← hW0];exact zAc.at1 _ _ _
 have hlt:=ho2.lt
 have CS:Hid (∀ n,Calls Tryz.prog 53 #[.slice An op.nodes.length cn,.slice An' op.nodes.length cn'] (W0.drewN n) fun e w'=>e = .returned (.bool true)∧Below (W0.drewN n).heap.size (W0.drewN n) w'):=fun n=>by
  have h:=zNr op.nodes op.nodes (W0.drewN n) _ _ ((hn.below hb0 hb0.size).keep (fun _ _=>rfl) (fun _ h=>h)) ((hn'.below hb0 hb0.size).keep (fun _ _=>rfl) (fun _ h=>h))
  rwa [show (op.nodes.length == op.nodes.length && eqsS op.nodes op.nodes) = true by rw [beq_self_eq_true,((zKm op.nodes op.nodes).2 rfl).2];rfl] at h
 have HR:=hid (And.intro (hr.below hb0 hb0.size) (hr'.below hb0 hb0.size))
 have HB0:=hid hb0
 obtain ⟨_,_,rs,hq,hcap,hmax,hrd,hls⟩:=HR.out.1
 cases hq
 obtain ⟨_,_,rs',hq,hcap',hmax',hrd',hls'⟩:=HR.out.2
 cases hq
 have HRD:=hid (And.intro (And.intro hrd hls) (And.intro hrd' hls'))
 unfold maxLen at hmax hmax'
 have l0:op.row.length≤9223372036854775807:=by omega
 obtain ⟨kind,row,at_,n,nodes,slot,old,text⟩:=op
 simp only [opC] at *
 have m0:=ho1.cell 0
 have m1:=ho1.cell 1
 have m2:=ho1.cell 2
 have m3:=ho1.cell 3
 have m4:=ho1.cell 4
 have m5:=ho1.cell 5
 have m6:=ho1.cell 6
 have m7:=ho1.cell 7
 have n0:=ho2.cell 0
 have n1:=ho2.cell 1
 have n2:=ho2.cell 2
 have n3:=ho2.cell 3
 have n4:=ho2.cell 4
 have n5:=ho2.cell 5
 have n6:=ho2.cell 6
 have n7:=ho2.cell 7
 simp only [List.getElem?_toArray,List.getElem?_cons_zero,List.getElem?_cons_succ] at m0 m1 m2 m3 m4 m5 m6 m7 n0 n1 n2 n3 n4 n5 n6 n7
 clear hr hn hr' hn' ho1 ho2 hb0 hrd hls hrd' hls' hcap hmax hcap' hmax' HR hlt
 go_enter Tryz.func100,Tryz.ntmps100
 go_wp2_with fail
 go_loopw [5] (fun i wr=>(∃ n,wr = W0.drewN n)∧∃ (k:Nat),k≤row.length∧i = .int .i64 k) (fun i _=>row.length - (intOf i).toNat)
 case atStart=>exact ⟨⟨0,rfl⟩,0,Nat.zero_le _,rfl⟩
 case round =>
  obtain ⟨⟨n,rfl⟩,k,hk,rfl⟩:=hrel
  by_cases hx:k < row.length
  ·obtain ⟨g,o,rfl,hg,hi,c0⟩:=zB2 HRD.out.1.1 HRD.out.1.2 hx
   obtain ⟨g',o',rfl,hg',hi',c0'⟩:=zB2 HRD.out.2.1 HRD.out.2.2 hx
   have i1:(k:Int) < (row.length:Int):=by omega
   have i2:decide ((k:Int) < (row.length:Int)) = true:=by rw [decide_eq_true_eq];omega
   have i3:(row[k] != row[k]) = false:=by simp
   go_wp2_with fail
   go_quiet (fail)
   go_wp2_with fail
   go_roundw
   case rel=>exact ⟨by first | exact ⟨_,rfl⟩ | (simp only [World.drewN_drewN];exact ⟨_,rfl⟩),k + 1,by omega,by go_num⟩
   case measure=>simp [intOf];omega
  ·have i2:decide ((k:Int) < (row.length:Int)) = false:=by rw [decide_eq_false_iff_not];omega
   go_wp2_with fail
   refine (CS.out _).mono ?_
   rintro e w2 ⟨rfl,hb2⟩
   have HB2:=hid (zAq (zFn HB0.out) hb2)
   clear hb2
   go_wp2_with fail
   go_ret
   exact ⟨rfl,HB2.out⟩
set_option maxHeartbeats 4000000 in
theorem zMl (ops:List OpD) (Ao Ao':Option Addr) (co co':Nat) (w:World) (ho:zAa opE w (Lt w.heap.size) ops (.slice Ao ops.length co)) (ho':zAa opE w (Lt w.heap.size) ops (.slice Ao' ops.length co')) :
  Calls Tryz.prog 61 #[.slice Ao ops.length co,.slice Ao' ops.length co'] w fun e w'=>e = .returned (.bool true)∧Below w.heap.size w w':=by
 have H:=hid (And.intro ho ho')
 have hl0:ops.length≤9223372036854775807:=by
  obtain ⟨_,_,_,hq,hcap,hmax,_,_⟩:=ho
  cases hq
  unfold maxLen at hmax
  omega
 have HW:Hid (∀ W,Below w.heap.size w W→∀ k (hk:k < ops.length),∃ g o g' o' Ar An Ar' An' cr cn cr' cn',Ao = some ⟨g,o,none⟩∧Ao' = some ⟨g',o',none⟩∧(W.cell? ⟨g,o + k * 8,none⟩ = some (.int .i64 ops[k].kind)∧W.cell? ⟨g,o + k * 8 + 1,none⟩ = some (.slice Ar ops[k].row.length cr)∧W.cell? ⟨g,o + k * 8 + 2,none⟩ = some (.int .i64 ops[k].at_) ∧
   W.cell? ⟨g,o + k * 8 + 3,none⟩ = some (.int .i64 ops[k].n)∧W.cell? ⟨g,o + k * 8 + 4,none⟩ = some (.slice An ops[k].nodes.length cn)∧W.cell? ⟨g,o + k * 8 + 5,none⟩ = some (.int .i64 ops[k].slot) ∧
   W.cell? ⟨g,o + k * 8 + 6,none⟩ = some (.string ops[k].old)∧W.cell? ⟨g,o + k * 8 + 7,none⟩ = some (.string ops[k].text))∧(W.cell? ⟨g',o' + k * 8,none⟩ = some (.int .i64 ops[k].kind)∧W.cell? ⟨g',o' + k * 8 + 1,none⟩ = some (.slice Ar' ops[k].row.length cr')∧W.cell? ⟨g',o' + k * 8 + 2,none⟩ = some (.int .i64 ops[k].at_) ∧
   W.cell? ⟨g',o' + k * 8 + 3,none⟩ = some (.int .i64 ops[k].n)∧W.cell? ⟨g',o' + k * 8 + 4,none⟩ = some (.slice An' ops[k].nodes.length cn')∧W.cell? ⟨g',o' + k * 8 + 5,none⟩ = some (.int .i64 ops[k].slot) ∧
   W.cell? ⟨g',o' + k * 8 + 6,none⟩ = some (.string ops[k].old)∧W.cell? ⟨g',o' + k * 8 + 7,none⟩ = some (.string ops[k].text)) ∧
   Hid (∀ W2,Below W.heap.size W W2→Calls Tryz.prog 100 #[.agg (opC ops[k] (.slice Ar ops[k].row.length cr) (.slice An ops[k].nodes.length cn)),.agg (opC ops[k] (.slice Ar' ops[k].row.length cr') (.slice An' ops[k].nodes.length cn'))] W2 fun e w'=>e = .returned (.bool true)∧Below W2.heap.size W2 w')):=by
  intro W hW k hk
  obtain ⟨_,_,rso,hq,_,_,hrdo,hlso⟩:=H.out.1.below hW hW.size
  cases hq
  obtain ⟨g,o,Ar,An,cr,cn,e,hg,p0,p1,p2,p3,p4,p5,p6,p7,hr,hn,h1,h2,_⟩:=zLf hrdo hlso hk
  obtain ⟨_,_,rso',hq,_,_,hrdo',hlso'⟩:=H.out.2.below hW hW.size
  cases hq
  obtain ⟨g',o',Ar',An',cr',cn',e',hg',p0',p1',p2',p3',p4',p5',p6',p7',hr',hn',h1',h2',_⟩:=zLf hrdo' hlso' hk
  exact ⟨g,o,g',o',Ar,An,Ar',An',cr,cn,cr',cn',e,e',⟨p0,p1,p2,p3,p4,p5,p6,p7⟩,⟨p0',p1',p2',p3',p4',p5',p6',p7'⟩,fun W2 hW2=>zOl ops[k] Ar An Ar' An' cr cn cr' cn' W2 (hr.below hW2 hW2.size) (hn.below hW2 hW2.size) (hr'.below hW2 hW2.size) (hn'.below hW2 hW2.size)⟩
 clear ho ho' H
 go_enter Tryz.func61,Tryz.ntmps61
 go_wp2_with fail
 go_loopw [5] (fun i wr=>Below w.heap.size w wr∧∃ (k:Nat),k≤ops.length∧i = .int .i64 k) (fun i _=>ops.length - (intOf i).toNat)
 case atStart=>exact ⟨Below.refl _ _,0,Nat.zero_le _,rfl⟩
 case round =>
  obtain ⟨hb,k,hk,rfl⟩:=hrel
  by_cases hx:k < ops.length
  ·obtain ⟨g,o,g',o',Ar,An,Ar',An',cr,cn,cr',cn',rfl,rfl,⟨p0,p1,p2,p3,p4,p5,p6,p7⟩,⟨q0,q1,q2,q3,q4,q5,q6,q7⟩,CS⟩:=HW.out wr hb k hx
   have HB:=hid hb
   have i0:(0:Int)≤(k:Int):=by omega
   have i1:(k:Int) < (ops.length:Int):=by omega
   have i2:decide ((k:Int) < (ops.length:Int)) = true:=by rw [decide_eq_true_eq];omega
   have hg1:g < wr.heap.size:=World.block_lt_of_cell? wr _ p0
   have hg2:g' < wr.heap.size:=World.block_lt_of_cell? wr _ q0
   have KO:Hid (∀ W,Below wr.heap.size wr W→(W.cell? ⟨g,o + k * 8,none⟩ = some (.int .i64 ops[k].kind)∧W.cell? ⟨g,o + k * 8 + 1,none⟩ = some (.slice Ar ops[k].row.length cr)∧W.cell? ⟨g,o + k * 8 + 2,none⟩ = some (.int .i64 ops[k].at_)∧W.cell? ⟨g,o + k * 8 + 3,none⟩ = some (.int .i64 ops[k].n)∧W.cell? ⟨g,o + k * 8 + 4,none⟩ = some (.slice An ops[k].nodes.length cn)∧W.cell? ⟨g,o + k * 8 + 5,none⟩ = some (.int .i64 ops[k].slot)∧W.cell? ⟨g,o + k * 8 + 6,none⟩ = some (.string ops[k].old)∧W.cell? ⟨g,o + k * 8 + 7,none⟩ = some (.string ops[k].text))∧(W.cell? ⟨g',o' + k * 8,none⟩ = some (.int .i64 ops[k].kind)∧W.cell? ⟨g',o' + k * 8 + 1,none⟩ = some (.slice Ar' ops[k].row.length cr')∧W.cell? ⟨g',o' + k * 8 + 2,none⟩ = some (.int .i64 ops[k].at_)∧W.cell? ⟨g',o' + k * 8 + 3,none⟩ = some (.int .i64 ops[k].n)∧W.cell? ⟨g',o' + k * 8 + 4,none⟩ = some (.slice An' ops[k].nodes.length cn')∧W.cell? ⟨g',o' + k * 8 + 5,none⟩ = some (.int .i64 ops[k].slot)∧W.cell? ⟨g',o' + k * 8 + 6,none⟩ = some (.string ops[k].old)∧W.cell? ⟨g',o' + k * 8 + 7,none⟩ = some (.string ops[k].text))):=fun W hW=>⟨⟨(hW.cell (p:=⟨g,_,none⟩) hg1).trans p0,(hW.cell (p:=⟨g,_,none⟩) hg1).trans p1,(hW.cell (p:=⟨g,_,none⟩) hg1).trans p2,(hW.cell (p:=⟨g,_,none⟩) hg1).trans p3,(hW.cell (p:=⟨g,_,none⟩) hg1).trans p4,(hW.cell (p:=⟨g,_,none⟩) hg1).trans p5,(hW.cell (p:=⟨g,_,none⟩) hg1).trans p6,(hW.cell (p:=⟨g,_,none⟩) hg1).trans p7⟩,⟨(hW.cell (p:=⟨g',_,none⟩) hg2).trans q0,(hW.cell (p:=⟨g',_,none⟩) hg2).trans q1,(hW.cell (p:=⟨g',_,none⟩) hg2).trans q2,(hW.cell (p:=⟨g',_,none⟩) hg2).trans q3,(hW.cell (p:=⟨g',_,none⟩) hg2).trans q4,(hW.cell (p:=⟨g',_,none⟩) hg2).trans q5,(hW.cell (p:=⟨g',_,none⟩) hg2).trans q6,(hW.cell (p:=⟨g',_,none⟩) hg2).trans q7⟩⟩
   clear hb hg1 hg2
   generalize ops[k] = op at *
   obtain ⟨kind,row,at_,n,nodes,slot,old,text⟩:=op
   simp only [opC] at *
   go_wp2_with fail
   go_region_held3 (fun w'=>(w'.cell? ⟨g,o + k * 8,none⟩ = some (.int .i64 kind)∧w'.cell? ⟨g,o + k * 8 + 1,none⟩ = some (.slice Ar row.length cr)∧w'.cell? ⟨g,o + k * 8 + 2,none⟩ = some (.int .i64 at_)∧w'.cell? ⟨g,o + k * 8 + 3,none⟩ = some (.int .i64 n)∧w'.cell? ⟨g,o + k * 8 + 4,none⟩ = some (.slice An nodes.length cn)∧w'.cell? ⟨g,o + k * 8 + 5,none⟩ = some (.int .i64 slot)∧w'.cell? ⟨g,o + k * 8 + 6,none⟩ = some (.string old)∧w'.cell? ⟨g,o + k * 8 + 7,none⟩ = some (.string text)) ∧
     (w'.cell? ⟨g',o' + k * 8,none⟩ = some (.int .i64 kind)∧w'.cell? ⟨g',o' + k * 8 + 1,none⟩ = some (.slice Ar' row.length cr')∧w'.cell? ⟨g',o' + k * 8 + 2,none⟩ = some (.int .i64 at_)∧w'.cell? ⟨g',o' + k * 8 + 3,none⟩ = some (.int .i64 n)∧w'.cell? ⟨g',o' + k * 8 + 4,none⟩ = some (.slice An' nodes.length cn')∧w'.cell? ⟨g',o' + k * 8 + 5,none⟩ = some (.int .i64 slot)∧w'.cell? ⟨g',o' + k * 8 + 6,none⟩ = some (.string old)∧w'.cell? ⟨g',o' + k * 8 + 7,none⟩ = some (.string text))) (first | go_keep | trivial) (first
    | (go_at_call 100;refine (CS.out _ (Below.refl _ _).drew).mono ?_;rintro e w3 ⟨rfl,hb3⟩;have HB3:=hid (zAq HB.out (zC7 hb3));have HK3:=hid (zC7 hb3);clear hb3;obtain ⟨⟨p0,p1,p2,p3,p4,p5,p6,p7⟩,⟨q0,q1,q2,q3,q4,q5,q6,q7⟩⟩:=KO.out w3 HK3.out)
    | fail)
   go_wp2_with fail
   go_roundw
   case rel=>exact ⟨HB3.out,k + 1,by omega,by go_num⟩
   case measure=>simp [intOf];omega
  ·have i2:decide ((k:Int) < (ops.length:Int)) = false:=by rw [decide_eq_false_iff_not];omega
   have HB:=hid hb
   clear hb
   go_wp2_with fail
   go_ret
   exact ⟨rfl,HB.out⟩
theorem zHr (p m:List Int) (Ap Am Ap' Am':Option Addr) (cp cm cp' cm':Nat) (w:World) (hp:zAh w (Lt w.heap.size) p (.slice Ap p.length cp)) (hm:zAh w (Lt w.heap.size) m (.slice Am m.length cm)) (hp':zAh w (Lt w.heap.size) p (.slice Ap' p.length cp')) (hm':zAh w (Lt w.heap.size) m (.slice Am' m.length cm')) :
  Calls Tryz.prog 30 #[.agg #[.slice Ap p.length cp,.slice Am m.length cm],.agg #[.slice Ap' p.length cp',.slice Am' m.length cm']] w fun e w'=>e = .returned (.bool true)∧Below w.heap.size w w':=by
 obtain ⟨W0,hW0⟩:∃ W0,(w.alloc (.cells #[.slice Ap p.length cp,.slice Am m.length cm] 33)).alloc (.cells #[.slice Ap' p.length cp',.slice Am' m.length cm'] 33) = W0:=⟨_,rfl⟩
 have hb0:Below w.heap.size w W0:=by rw [← hW0];exact zAp (blA _ _) _
 have ho1:zAc W0 w.heap.size (.cells #[.slice Ap p.length cp,.slice Am m.length cm] 33):=by rw [← hW0];exact (zAc.at0 _ _).al _
 have ho2:zAc W0 (w.heap.size + 1) (.cells #[.slice Ap' p.length cp',.slice Am' m.length cm'] 33):=by rw [← hW0];exact zAc.at1 _ _ _
 have C1:Hid (Calls Tryz.prog 33 #[.slice Ap p.length cp,.slice Ap' p.length cp'] W0 fun e w'=>e = .returned (.bool true)∧∃ n,w' = W0.drewN n):=by
  have h:=zPl p p W0 _ _ _ _ (hp.below hb0 hb0.size) (hp'.below hb0 hb0.size)
  rwa [show decide (cmpS p p = 0) = true by rw [decide_eq_true_eq,zE8]] at h
 have C2:Hid (∀ n,Calls Tryz.prog 33 #[.slice Am m.length cm,.slice Am' m.length cm'] (W0.drewN n) fun e w'=>e = .returned (.bool true)∧∃ k,w' = (W0.drewN n).drewN k):=fun n=>by
  have h:=zPl m m (W0.drewN n) _ _ (Lt W0.heap.size) (Lt W0.heap.size) ((hm.below hb0 hb0.size).keep (fun _ _=>rfl) (fun _ h=>h)) ((hm'.below hb0 hb0.size).keep (fun _ _=>rfl) (fun _ h=>h))
  rwa [show decide (cmpS m m = 0) = true by rw [decide_eq_true_eq,zE8]] at h
 have HB0:=hid hb0
 have m0:=ho1.cell 0
 have m1:=ho1.cell 1
 have n0:=ho2.cell 0
 have n1:=ho2.cell 1
 simp only [List.getElem?_toArray,List.getElem?_cons_zero,List.getElem?_cons_succ] at m0 m1 n0 n1
 clear hp hm hp' hm' hb0 ho1 ho2
 go_enter Tryz.func30,Tryz.ntmps30
 go_wp2_with fail
 refine C1.out.mono ?_
 rintro e w1 ⟨rfl,n,rfl⟩
 go_wp2_with fail
 refine (C2.out _).mono ?_
 rintro e w2 ⟨rfl,n2,rfl⟩
 go_wp2_with fail
 go_ret
 exact ⟨rfl,by first | exact zFn (zFn HB0.out) | exact zFn HB0.out⟩
set_option maxHeartbeats 1000000 in
theorem zOk (r:RecD) (Ao Ap Am Aq An:Option Addr) (co cp cm cq cn:Nat) (Ao' Ap' Am' Aq' An':Option Addr) (co' cp' cm' cq' cn':Nat) (w:World)
  (h0:zAa opE w (Lt w.heap.size) r.ops (.slice Ao r.ops.length co)) (h1:zAh w (Lt w.heap.size) r.bp (.slice Ap r.bp.length cp)) (h2:zAh w (Lt w.heap.size) r.bm (.slice Am r.bm.length cm)) (h3:zAh w (Lt w.heap.size) r.ap (.slice Aq r.ap.length cq)) (h4:zAh w (Lt w.heap.size) r.am (.slice An r.am.length cn))
  (k0:zAa opE w (Lt w.heap.size) r.ops (.slice Ao' r.ops.length co')) (k1:zAh w (Lt w.heap.size) r.bp (.slice Ap' r.bp.length cp')) (k2:zAh w (Lt w.heap.size) r.bm (.slice Am' r.bm.length cm')) (k3:zAh w (Lt w.heap.size) r.ap (.slice Aq' r.ap.length cq')) (k4:zAh w (Lt w.heap.size) r.am (.slice An' r.am.length cn')) :
  Calls Tryz.prog 28 #[.agg #[.slice Ao r.ops.length co,.slice Ap r.bp.length cp,.slice Am r.bm.length cm,.slice Aq r.ap.length cq,.slice An r.am.length cn],.agg #[.slice Ao' r.ops.length co',.slice Ap' r.bp.length cp',.slice Am' r.bm.length cm',.slice Aq' r.ap.length cq',.slice An' r.am.length cn']] w fun e w'=>e = .returned (.bool true)∧Below w.heap.size w w':=by
 obtain ⟨ops,bp,bm,ap,am⟩:=r
 simp only at *
 obtain ⟨W0,hW0⟩:∃ W0,(w.alloc (.cells #[.slice Ao ops.length co,.slice Ap bp.length cp,.slice Am bm.length cm,.slice Aq ap.length cq,.slice An am.length cn] 36)).alloc (.cells #[.slice Ao' ops.length co',.slice Ap' bp.length cp',.slice Am' bm.length cm',.slice Aq' ap.length cq',.slice An' am.length cn'] 36) = W0:=⟨_,rfl⟩
 have hb0:Below w.heap.size w W0:=by rw [← hW0];exact zAp (blA _ _) _
 have ho1:zAc W0 w.heap.size (.cells #[.slice Ao ops.length co,.slice Ap bp.length cp,.slice Am bm.length cm,.slice Aq ap.length cq,.slice An am.length cn] 36):=by rw [← hW0];exact (zAc.at0 _ _).al _
 have ho2:zAc W0 (w.heap.size + 1) (.cells #[.slice Ao' ops.length co',.slice Ap' bp.length cp',.slice Am' bm.length cm',.slice Aq' ap.length cq',.slice An' am.length cn'] 36):=by rw [← hW0];exact zAc.at1 _ _ _
 have C0:Hid (∀ W,Below w.heap.size w W→Calls Tryz.prog 61 #[.slice Ao ops.length co,.slice Ao' ops.length co'] W fun e w'=>e = .returned (.bool true)∧Below W.heap.size W w'):=fun W hW=>zMl ops Ao Ao' co co' W (h0.below hW hW.size) (k0.below hW hW.size)
 have C1:Hid (∀ W,Below w.heap.size w W→Calls Tryz.prog 30 #[.agg #[.slice Ap bp.length cp,.slice Am bm.length cm],.agg #[.slice Ap' bp.length cp',.slice Am' bm.length cm']] W fun e w'=>e = .returned (.bool true)∧Below W.heap.size W w'):=fun W hW=>zHr bp bm Ap Am Ap' Am' cp cm cp' cm' W (h1.below hW hW.size) (h2.below hW hW.size) (k1.below hW hW.size) (k2.below hW hW.size)
 have C2:Hid (∀ W,Below w.heap.size w W→Calls Tryz.prog 30 #[.agg #[.slice Aq ap.length cq,.slice An am.length cn],.agg #[.slice Aq' ap.length cq',.slice An' am.length cn']] W fun e w'=>e = .returned (.bool true)∧Below W.heap.size W w'):=fun W hW=>zHr ap am Aq An Aq' An' cq cn cq' cn' W (h3.below hW hW.size) (h4.below hW hW.size) (k3.below hW hW.size) (k4.below hW hW.size)
 have KB:Hid (∀ W,Below W0.heap.size W0 W→(W.cell? ⟨w.heap.size,1,none⟩ = some (.slice Ap bp.length cp)∧W.cell? ⟨w.heap.size,2,none⟩ = some (.slice Am bm.length cm)∧W.cell? ⟨w.heap.size,3,none⟩ = some (.slice Aq ap.length cq)∧W.cell? ⟨w.heap.size,4,none⟩ = some (.slice An am.length cn))∧(W.cell? ⟨w.heap.size + 1,1,none⟩ = some (.slice Ap' bp.length cp')∧W.cell? ⟨w.heap.size + 1,2,none⟩ = some (.slice Am' bm.length cm')∧W.cell? ⟨w.heap.size + 1,3,none⟩ = some (.slice Aq' ap.length cq')∧W.cell? ⟨w.heap.size + 1,4,none⟩ = some (.slice An' am.length cn'))∧Below w.heap.size w W):=fun W hW=>by
  have h1:=ho1.below hW
  have h2:=ho2.below hW
  exact ⟨⟨h1.cell 1,h1.cell 2,h1.cell 3,h1.cell 4⟩,⟨h2.cell 1,h2.cell 2,h2.cell 3,h2.cell 4⟩,hb0.trans (hW.mono hb0.size)⟩
 have HB0:=hid hb0
 have m0:=ho1.cell 0
 have n0:=ho2.cell 0
 simp only [List.getElem?_toArray,List.getElem?_cons_zero,List.getElem?_cons_succ] at m0 n0
 clear h0 h1 h2 h3 h4 k0 k1 k2 k3 k4 hb0 ho1 ho2
 go_enter Tryz.func28,Tryz.ntmps28
 go_wp2_with fail
 refine (C0.out _ HB0.out).mono ?_
 rintro e w1 ⟨rfl,hb1⟩
 clear m0 n0 hW0
 obtain ⟨⟨m1,m2,m3,m4⟩,⟨n1,n2,n3,n4⟩,hbw⟩:=KB.out w1 hb1
 have HT:=hid hb1
 have HK:=hid hbw
 clear hb1 hbw
 go_wp2_with fail
 refine (C1.out _ HK.out).mono ?_
 rintro e w2 ⟨rfl,hb2⟩
 have HT:=hid (zAq HT.out hb2)
 clear hb2 m1 m2 m3 m4 n1 n2 n3 n4
 obtain ⟨⟨m1,m2,m3,m4⟩,⟨n1,n2,n3,n4⟩,hbw⟩:=KB.out w2 HT.out
 have HK:=hid hbw
 clear hbw
 go_wp2_with fail
 refine (C2.out _ HK.out).mono ?_
 rintro e w3 ⟨rfl,hb3⟩
 have HK:=hid (zAq HK.out hb3)
 clear hb3 m1 m2 m3 m4 n1 n2 n3 n4
 go_wp2_with fail
 go_ret
 exact ⟨rfl,HK.out⟩
theorem zQg (k : Int) {a b : List Tree} (h : a.Sublist b) : zCr k b = true → zCr k a = true ∧ zAd a ≤ zAd b ∧ zBb a ≤ zBb b := by
  induction h with
  | slnil => exact fun h => ⟨h, Nat.le_refl _, Nat.le_refl _⟩
  | cons x _ ih =>
    intro h
    rw [zBz] at h
    simp only [Bool.and_eq_true] at h
    obtain ⟨h1, h2, h3⟩ := ih h.2
    exact ⟨h1, by rw [zAd]; omega, by rw [zBb]; omega⟩
  | cons_cons x _ ih =>
    intro h
    rw [zBz] at h
    simp only [Bool.and_eq_true] at h
    obtain ⟨h1, h2, h3⟩ := ih h.2
    refine ⟨by rw [zBz]; simp only [Bool.and_eq_true]; exact ⟨h.1, h1⟩, by rw [zAd, zAd]; omega, by rw [zBb, zBb]; omega⟩
theorem zPq {a b:List Tree} (h:a.Sublist b) (hf:zB0 (rowT b) = true):zB0 (rowT a) = true∧zAe (rowT a)≤zAe (rowT b)∧zBc (rowT a)≤zBc (rowT b):=by
 unfold rowT at *
 rw [zB0] at hf ⊢
 simp only [Bool.and_eq_true] at hf ⊢
 obtain ⟨h1,h2,h3⟩:=zQg 1 h hf.2
 have hl:=h.length_le
 refine ⟨⟨⟨hf.1.1,?_⟩,h1⟩,by rw [zAe,zAe];omega,by rw [zBc,zBc];omega⟩
 have h4:=hf.1.2
 simp [zA5] at h4 ⊢
 omega
theorem zJn (k : Int) : (ts : List Tree) → (i : Nat) → (x : Tree) → (hi : i < ts.length) → zCr k ts = true → zB0 x = true → (x.kind == 1) = (ts[i].kind == 1) → zCr k (ts.set i x) = true
  | t :: ts, 0, x, _, h, hx, hk => by
    simp only [List.getElem_cons_zero] at hk
    rw [List.set_cons_zero, zBz, hk, hx]
    rw [zBz] at h
    simp only [Bool.and_eq_true] at h ⊢
    exact ⟨⟨h.1.1, trivial⟩, h.2⟩
  | t :: ts, i + 1, x, hi, h, hx, hk => by
    rw [List.set_cons_succ, zBz]
    rw [zBz] at h
    simp only [Bool.and_eq_true] at h ⊢
    exact ⟨h.1, zJn k ts i x (by simpa using hi) h.2 hx (by simpa using hk)⟩
theorem zIg : (ts : List Tree) → (i : Nat) → (x : Tree) → (hi : i < ts.length) → zBc x ≤ zBc ts[i] → zBb (ts.set i x) ≤ zBb ts
  | t :: ts, 0, x, _, h => by simp only [List.getElem_cons_zero, List.set_cons_zero, zBb] at *; omega
  | t :: ts, i + 1, x, hi, h => by
    have := zIg ts i x (by simpa using hi) (by simpa using h)
    simp only [List.set_cons_succ, zBb]; omega
theorem zNw {t:Tree} {i:Nat} {x:Tree} (hi:i < t.kids.length) (hf:zB0 t = true) (hx:zB0 x = true) (hk:(x.kind == 1) = (t.kids[i].kind == 1)) (hc:zAe x≤zAe t.kids[i]) (hd:zBc x≤zBc t.kids[i]):zB0 (zCj t i x) = true∧zAe (zCj t i x)≤zAe t∧zBc (zCj t i x)≤zBc t:=by
 obtain ⟨k,s,c,ts⟩:=t
 simp only [zCj,Tree.kind,Tree.text,Tree.cols,Tree.kids] at *
 rw [zB0] at hf ⊢
 simp only [Bool.and_eq_true,List.length_set] at hf ⊢
 have h1:=zFu ts i x hi
 have h2:=zIg ts i x hi hd
 exact ⟨⟨hf.1,zJn k ts i x hi hf.2 hx hk⟩,by rw [zAe,zAe];omega,by rw [zBc,zBc];omega⟩
theorem zP0 : (p : List Int) → (t : Tree) → (l : List Tree) → (zAm t p).2 = true → zB0 t = true → t.kind = 1 → zB0 (rowT l) = true → zAe (rowT l) ≤ zAe (zAm t p).1 → zBc (rowT l) ≤ zBc (zAm t p).1 → (putS t p l).kind = 1 ∧ zB0 (putS t p l) = true ∧ zAe (putS t p l) ≤ zAe t ∧ zBc (putS t p l) ≤ zBc t
  | [], t, l, _, hf, hk, hl, hc, hd => ⟨rfl, hl, hc, hd⟩
  | [_], t, l, h, _, _, _, _, _ => by simp [zAm] at h
  | i :: k :: p, t, l, h, hf, hk, hl, hc, hd => by
    obtain ⟨hi, hk', he⟩ := zCs t i k p h
    rw [he] at h hc hd
    have f1 := zC1 hf hi.2
    rw [← zBy hi.2, hk] at f1
    have f2 := zC1 f1.1 hk'.2
    rw [← zBy hk'.2, f1.2] at f2
    obtain ⟨g1, g2, g3, g4⟩ := zP0 p _ l h f2.1 (by have := f2.2; simpa using this) hl hc hd
    have e1 : putS t (i :: k :: p) l = zCj t i.toNat (zCj (kidS t i) k.toNat (putS (kidS (kidS t i) k) p l)) := by rw [putS]
    rw [e1]
    obtain ⟨r1, r2, r3⟩ := zNw (t := kidS t i) (i := k.toNat) (x := putS (kidS (kidS t i) k) p l) hk'.2 f1.1 g2 (by rw [← zBy hk'.2, f2.2, g1]; rfl) (by rw [← zBy hk'.2]; exact g3) (by rw [← zBy hk'.2]; exact g4)
    obtain ⟨q1, q2, q3⟩ := zNw (t := t) (i := i.toNat) (x := zCj (kidS t i) k.toNat (putS (kidS (kidS t i) k) p l)) hi.2 hf r1 (by rw [← zBy hi.2]; rfl) (by rw [← zBy hi.2]; exact r2) (by rw [← zBy hi.2]; exact r3)
    exact ⟨hk, q1, q2, q3⟩
theorem zJq : (p : List Int) → (t : Tree) → (zAm t p).2 = true → zBc (zAm t p).1 ≤ zBc t
  | [], t, _ => Nat.le_refl _
  | [_], t, h => by simp [zAm] at h
  | i :: k :: p, t, h => by
    obtain ⟨hi, hk, he⟩ := zCs t i k p h
    rw [he] at h ⊢
    have h1 := zJq p _ h
    have h2 := zFe hi.2
    rw [← zBy hi.2] at h2
    have h3 := zFe hk.2
    rw [← zBy hk.2] at h3
    omega
theorem put_sub {t:Tree} {q:List Int} {its l:List Tree} (hv:zAf t = true) (hf:(zAm t q).2 = true) (hi:its = (zAm t q).1.kids) (h:l.Sublist its):zAf (putS t q l) = true:=by
 obtain ⟨v1,v2,v3,v4⟩:=zA0 hv
 have hr:=zGd hv hf
 have f:=(zEp q t hf v3 v2).1
 rw [hr,← hi] at f
 obtain ⟨s1,s2,s3⟩:=zPq h f
 have e:rowT its = (zAm t q).1:=by rw [hi,← hr]
 rw [e] at s2 s3
 obtain ⟨g1,g2,g3,g4⟩:=zP0 q t l hf v3 v2 s1 s2 s3
 unfold zAf
 simp only [Bool.and_eq_true,decide_eq_true_eq,g1,g2]
 exact ⟨⟨⟨rfl,trivial⟩,by omega⟩,by omega⟩
theorem zMz {t:Tree} {q:List Int} {its l:List Tree} (hv:zAf t = true) (hf:(zAm t q).2 = true) (hi:its = (zAm t q).1.kids) (h:l.Sublist its):zAf (rowT l) = true:=by
 obtain ⟨v1,v2,v3,v4⟩:=zA0 hv
 have hr:=zGd hv hf
 have f:=(zEp q t hf v3 v2).1
 rw [hr,← hi] at f
 obtain ⟨s1,s2,s3⟩:=zPq h f
 have e:rowT its = (zAm t q).1:=by rw [hi,← hr]
 rw [e] at s2 s3
 have:=zCe t q
 have:=zJq q t hf
 unfold zAf
 simp only [Bool.and_eq_true,decide_eq_true_eq,s1]
 exact ⟨⟨⟨rfl,trivial⟩,by omega⟩,by omega⟩
theorem applyS_of {t:Tree} {op:OpD} {l:List Tree} (hv:zAf t = true) (hf:(zAm t op.row).2 = true) (ho:zBp op = true) (hc:zAi (zAm t op.row).1.kids op = (l,0)) (hv':zAf (putS t op.row l) = true):zA8 t op = (putS t op.row l,0):=by
 unfold zA8
 rw [zDn hv hf]
 simp only [hc]
 rw [if_neg (by simp [hv]),if_neg (by simp [ho]),if_neg (by simp),if_neg (by simp),if_neg (by simp [hv'])]
theorem done_one {t m:Tree} {p mk pos:List Int} {op:OpD} (hv:zAf t = true) (h:zA8 t op = (m,0)):zI2 t p mk [op] pos = (⟨[op],p,mk,pos,[]⟩,0)∧zBn t [op] = (m,0):=by
 have e:zBn t [op] = (m,0):=by
  unfold zBn goS
  rw [if_neg (by simp [hv]),h,if_neg (by simp)]
  rfl
 refine ⟨?_,e⟩
 unfold zI2
 rw [e,if_pos rfl]
theorem sub_one {its:List Tree} {a:Nat} (ha:a < its.length):[its[a]].Sublist its:=List.singleton_sublist.2 (List.getElem_mem ha)
theorem zOh (its:List Tree) (a:Nat):(zAv its a (a + 1) []).Sublist its:=by
 unfold zAv
 rw [List.append_nil]
 have h:=List.Sublist.append (List.Sublist.refl (its.take a)) (List.drop_sublist_drop_left its (Nat.le_succ a))
 rwa [List.take_append_drop] at h
theorem zLi:noT.toList.isEmpty = true:=by rw [show noT.toList = [] by unfold noT ByteArray.toList ByteArray.toList.loop;rfl];rfl
theorem zPf {t:Tree} {q:List Int} {its:List Tree} {a s:Nat} (hv:zAf t = true) (hf:(zAm t q).2 = true) (hi:its = (zAm t q).1.kids) (ha:a < its.length) (hs:s < its[a].kids.length) (he:its[a].kids[s] = rowT []):zA8 t (unwS ⟨q,(a:Int),(s:Int),its[a]⟩) = (putS t q (zAv its a (a + 1) []),0):=by
 have hk:kidS its[a] (s:Int) = rowT []:=by rw [zBy (by simpa using hs)];simpa using he
 have hfi:zAr its[a] s [] = its[a]:=by
  unfold zAr zCj
  rw [← he,List.set_getElem_self]
  cases its[a];rfl
 have hop:unwS ⟨q,(a:Int),(s:Int),its[a]⟩ = ⟨4,q,(a:Int),0,[its[a]],(s:Int),noT,noT⟩:=by
  unfold unwS
  simp only [hk,Int.toNat_natCast,hfi]
  rfl
 rw [hop]
 have h:=applyS_of (t:=t) (op:=⟨4,q,(a:Int),0,[its[a]],(s:Int),noT,noT⟩) (l:=zAv its a (a + 1) []) hv hf ?_ ?_ (put_sub hv hf hi (zOh its a))
 ·exact h
 ·unfold zBp zA9
  rw [if_neg (by simp),if_pos (by simp)]
  simp only [Bool.and_eq_true,List.headD_cons]
  refine ⟨by simp,⟨rfl,zMz hv hf hi (sub_one ha),decide_eq_true (show (0:Int)≤(s:Int) by omega),decide_eq_true (show (s:Int) < (its[a].kids.length:Int) by omega),decide_eq_true (show (kidS its[a] (s:Int)).kids.length = 0 by rw [hk];rfl)⟩,zLi,zLi⟩
 ·show zAi (zAm t q).1.kids _ = _
  rw [← hi]
  have hg:its.getD a zAx = its[a]:=by rw [List.getD_eq_getElem?_getD,List.getElem?_eq_getElem ha];rfl
  unfold zAi zCv
  simp only [Int.toNat_natCast,hg,hk,List.headD_cons]
  rw [if_neg (by simp;omega),if_neg (by decide),if_neg (by decide),if_neg (by decide),if_pos (by trivial),if_neg ?_]
  ·rw [show ((a:Int) + 1).toNat = a + 1 by omega]
   rfl
  ·rintro (h | h | h)
   ·omega
   ·exact h rfl
   ·rw [show (rowT ([]:List Tree)).kids = [] from rfl,hfi,(zGs _ _).2 rfl] at h;cases h
theorem er_T (t:Tree) (q:List Int) (o:Int) (b:Bool) {its:List Tree} (hv:zAf t = true) (hf:(zAm t q).2 = true) (hi:its = (zAm t q).1.kids):zD2 t (q ++ [o]) [] b =
  if 0≤(if b then o - 1 else o)∧(if b then o - 1 else o) < (its.length:Int) then
   (if zCf (zD8 its (if b then o - 1 else o).toNat).kids 0 (-1) = false then zI2 t (q ++ [o]) [] [zBs q (if b then o - 1 else o) [zD8 its (if b then o - 1 else o).toNat]] (q ++ [if b then o - 1 else o]) else zEj t (q ++ [o]) [] b)
  else match aroS t (q ++ [o]) with
   | some x=>if zCf x.item.kids 0 x.own = false then zI2 t (q ++ [o]) [] [unwS x] (x.row ++ [if b then x.at_ else x.at_ + (unwS x).n]) else zEj t (q ++ [o]) [] b
   | none=>zEj t (q ++ [o]) [] b:=by
 unfold zD2
 have e1:(q ++ [o]).dropLast = q:=by simp
 have e2:(q ++ [o]).getLastD 0 = o:=by simp
 rw [e1,e2,zDn hv hf]
 simp only [← hi] <;> rfl
theorem old_read {X:World} {o:Obj} {L:List Tree} {v:Value} (h:zAa zAb X (Lt X.heap.size) L v):zAa zAb (X.alloc o) (fun k=>k < (X.alloc o).heap.size∧some k≠(Value.slice (some ⟨X.heap.size,0,none⟩) 0 0).ownBlock) L v:=by
 refine h.keep (fun q hq=>(zAt X o).cell hq) (fun k hk=>⟨?_,?_⟩)
 ·have:=(zAt X o).size
  exact Nat.lt_of_lt_of_le hk this
 ·intro e
  have e2:some k = some X.heap.size:=e
  injection e2 with e2
  unfold Lt at hk
  omega
theorem app_old {w:World} {ops:Array Oper} {rest:List Oper} {o:Oper} {a:Act} {Q:Exit→Act→World→Prop} (hgd:o.guard = none) (s x:Operand)
  (ho:o.op = .call { callee:=.builtin .append,args:=#[s,x],argTypes:=#[22,22] })
  (b:Nat) (v:Value) (yss:List Tree) (hs:a.eval s = v) (hown:w.ownsRow b 24 4 v 0 []) (A:Option Addr) (m c:Nat) (hx:a.eval x = .slice A m c) (hr:zAa zAb w (fun k=>k < w.heap.size∧some k≠v.ownBlock) yss (.slice A m c))
  (hbound:yss.length≤1000000000) (hb:b≤w.heap.size)
  (h:∀ v' w',zAa zAb w' (Lt w'.heap.size) yss v'→Below b w w'→wpList Tryz.prog ops Q rest (a.put o.dst v') w'):wpList Tryz.prog ops Q (o :: rest) a w:=by
 obtain ⟨i0,hi0,hz0,hz1,hz2⟩:=zF5
 obtain ⟨A',cap',rs,e,h1,h2,hrd,hls⟩:=hr
 injection e with e1 e2 e3
 subst e1 e2 e3
 have hl:=hls.len
 refine zBj w hgd s x 22 ho b 24 i0 _ 4 56 Tryz.underlying22 hi0 hz0 hz1 hz2 rfl (by omega) v _ _ hs hown _ A _ c rs hx hl hrd hls.one (by simp only [maxLen];omega) (by omega) hb ?_
 intro v' w' h3 h4 h5
 rw [Nat.zero_add,List.nil_append] at h3
 exact h v' w' (zAa.of_own (E:=zAb) h3 (fun k hk=>(h3.lt k hk).2) (hls.keep (fun p hp=>World.cell?_of_block (h4.block p.block hp.1 hp.2)) (fun k hk=>Nat.lt_of_lt_of_le hk.1 h4.size))) (zBv _ hown h4 hb)
set_option maxHeartbeats 4000000 in
theorem zOp (t : Tree) (p : List Int) (x y : Int) (A Ap : Option Addr) (cap cp : Nat) (w : World) (hv : zAa zAb w (Lt w.heap.size) t.kids (.slice A t.kids.length cap)) (hok : zAu t) (hct : zAe t ≤ 900000) (hp : zAh w (Lt w.heap.size) p (.slice Ap p.length cp)) (hx : In64 x) (hy : In64 y) :
    Calls Tryz.prog 19 #[.agg #[.int .i64 t.kind, .string t.text, .int .i64 t.cols, .slice A t.kids.length cap], .agg #[.slice Ap p.length cp, .int .i64 x, .int .i64 y]] w (ItemsRes w (zCd t p x y)) := by
  have C1 : Hid (∀ W, Below w.heap.size w W → Calls Tryz.prog 48 #[.agg #[.int .i64 t.kind, .string t.text, .int .i64 t.cols, .slice A t.kids.length cap], .slice Ap p.length cp] W (RowV W (zAg t p).1 (zAg t p).2)) := fun W hW => (rRow_any (.mk t.kind t.text t.cols t.kids) p A Ap cap cp W (by exact hv.below hW hW.size) hok.2.2 (by cases t; exact hct) (hp.below hW hW.size)).mono fun _ _ h => by cases t; obtain ⟨v, h1, h2, h3⟩ := h; exact ⟨v, h1, h2.keep (zCu _ _) (fun k hk => Nat.lt_of_lt_of_le hk h3.size), h3⟩
  have HR : Hid (((zAg t p).2 ≠ 0 → zCd t p x y = ([], (zAg t p).2)) ∧ ((zAg t p).2 = 0 → (x < 0 ∨ y < x ∨ (zAg t p).1.kids.length < y) → zCd t p x y = ([], 2)) ∧ ((zAg t p).2 = 0 → ¬ (x < 0 ∨ y < x ∨ (zAg t p).1.kids.length < y) → zCd t p x y = (((zAg t p).1.kids.take y.toNat).drop x.toNat, 0))) :=
    ⟨fun h => if_pos h, fun h1 h2 => (if_neg (by simp [h1])).trans (if_pos h2), fun h1 h2 => (if_neg (by simp [h1])).trans (if_neg h2)⟩
  have HC : Hid (zAd (zAg t p).1.kids ≤ 900000) := zHt t p hv hok hct
  generalize zCd t p x y = res at *
  generalize zAg t p = r at *
  obtain ⟨tk, tx, tc, ts⟩ := t
  obtain ⟨⟨rk, rx, rc, rs⟩, er⟩ := r
  simp only [Tree.kind, Tree.text, Tree.cols, Tree.kids] at *
  clear hv hok hct hp
  generalize hW0 : (w.alloc (Obj.cells #[.int .i64 tk, .string tx, .int .i64 tc, .slice A ts.length cap] 24)).alloc (.cells #[.slice Ap p.length cp, .int .i64 x, .int .i64 y] 46) = W0
  have KB : Hid (∀ W, Below W0.heap.size W0 W → (W.cell? ⟨w.heap.size, 0, none⟩ = some (.int .i64 tk) ∧ W.cell? ⟨w.heap.size, 1, none⟩ = some (.string tx) ∧ W.cell? ⟨w.heap.size, 2, none⟩ = some (.int .i64 tc) ∧ W.cell? ⟨w.heap.size, 3, none⟩ = some (.slice A ts.length cap)) ∧
      (W.cell? ⟨w.heap.size + 1, 0, none⟩ = some (.slice Ap p.length cp) ∧ W.cell? ⟨w.heap.size + 1, 1, none⟩ = some (.int .i64 x) ∧ W.cell? ⟨w.heap.size + 1, 2, none⟩ = some (.int .i64 y)) ∧ Below w.heap.size w W) := by
    intro W hW
    have hz : W0.heap.size = w.heap.size + 1 + 1 := by rw [← hW0]; simp
    have hc := (bcell hW).1
    have hbb : Below w.heap.size w W0 := by rw [← hW0]; exact zCb (zAt _ _) _
    refine ⟨⟨(hc _ _ (by omega)).trans ?_, (hc _ _ (by omega)).trans ?_, (hc _ _ (by omega)).trans ?_, (hc _ _ (by omega)).trans ?_⟩, ⟨(hc _ _ (by omega)).trans ?_, (hc _ _ (by omega)).trans ?_, (hc _ _ (by omega)).trans ?_⟩, hbb.trans (hW.mono hbb.size)⟩
    all_goals (rw [← hW0]; first | exact zD1 _ _ _ _ _ _ rfl | exact na_c _ _ _ _ _ (by simp))
  obtain ⟨⟨m0, m1, m2, m3⟩, ⟨c0, c1, c2⟩, hbw0⟩ := KB.out W0 (Below.refl _ _)
  have HBW0 := hid hbw0
  clear hbw0
  go_enter Tryz.func19, Tryz.ntmps19
  go_wp2_with fail
  refine (C1.out _ HBW0.out).mono ?_
  intro e w1 h1
  obtain ⟨v1, rfl, hr1, hb1⟩ : ∃ v, e = .returned (.tuple #[.agg #[.int .i64 rk, .string rx, .int .i64 rc, v], .int .i64 er]) ∧ zAa zAb w1 (Lt w1.heap.size) rs v ∧ Below W0.heap.size W0 w1 := h1
  obtain ⟨A1, n1, rfl⟩ := hr1.form
  have HI1 := hid hr1
  have HB1 := hid hb1
  clear m0 m1 m2 m3 c0 c1 c2 hr1 hb1
  rcases Decidable.em (er = 0) with he | he
  case inr =>
    have HE := hid he
    have i0 : (er != 0) = true := by simpa using he
    go_wp2_with fail
    refine bodyPost_ret (v := .tuple #[.slice none 0 0, .int .i64 er]) (by simp [results, Tryz.results19, go_sem]) rfl ?_
    rw [HR.out.1 HE.out]
    exact ⟨_, rfl, zAa.nil_ 0 (Nat.zero_le _) none, zCb (KB.out w1 HB1.out).2.2 _⟩
  subst he
  go_upto_region 4 with fail
  obtain ⟨X, hX⟩ : ∃ X, w1.alloc (Obj.cells #[.int .i64 rk, .string rx, .int .i64 rc, .slice A1 rs.length n1] 24) = X := ⟨_, rfl⟩
  rw [hX]
  have HXB : Hid (Below w1.heap.size w1 X) := by show Below _ _ _; rw [← hX]; exact zAt _ _
  obtain ⟨_, ⟨_, b1, b2⟩, hbw⟩ := KB.out X (HB1.out.trans (HXB.out.mono HB1.out.size))
  have n3 : X.cell? ⟨w1.heap.size, 3, none⟩ = some (.slice A1 rs.length n1) := by rw [← hX]; exact na_c _ _ _ _ _ rfl
  have HBW := hid hbw
  have HIX := hid (HI1.out.below HXB.out HXB.out.size)
  clear hbw hX
  have hn1 : rs.length ≤ n1 := by obtain ⟨_, _, _, hq, h1, _⟩ := HI1.out; cases hq; exact h1
  rcases Int.lt_or_le x 0 with h0 | h0
  · have i0 : decide (x < 0) = true := by simpa using h0
    have HH := hid h0
    clear h0
    go_wp2_with fail
    refine bodyPost_ret (v := .tuple #[.slice none 0 0, .int .i64 2]) (by simp [results, Tryz.results19, go_sem]) rfl ?_
    rw [HR.out.2.1 trivial (Or.inl HH.out)]
    exact ⟨_, rfl, zAa.nil_ 0 (Nat.zero_le _) none, HBW.out⟩
  have i0 : decide (x < 0) = false := by simpa using h0
  rcases Int.lt_or_le y x with h1 | h1
  · have i1 : decide (y < x) = true := by simpa using h1
    have HH := hid h1
    clear h1 h0
    go_wp2_with fail
    refine bodyPost_ret (v := .tuple #[.slice none 0 0, .int .i64 2]) (by simp [results, Tryz.results19, go_sem]) rfl ?_
    rw [HR.out.2.1 trivial (Or.inr (Or.inl HH.out))]
    exact ⟨_, rfl, zAa.nil_ 0 (Nat.zero_le _) none, HBW.out⟩
  have i1 : decide (y < x) = false := by simpa using h1
  rcases Int.lt_or_le rs.length y with h2 | h2
  · have i2 : decide ((rs.length : Int) < y) = true := by simpa using h2
    have HH := hid h2
    clear h1 h0 h2
    go_wp2_with fail
    refine bodyPost_ret (v := .tuple #[.slice none 0 0, .int .i64 2]) (by simp [results, Tryz.results19, go_sem]) rfl ?_
    rw [HR.out.2.1 trivial (Or.inr (Or.inr HH.out))]
    exact ⟨_, rfl, zAa.nil_ 0 (Nat.zero_le _) none, HBW.out⟩
  have i2 : decide ((rs.length : Int) < y) = false := by simpa using h2
  obtain ⟨x', hx'⟩ : ∃ x' : Nat, x = x' := ⟨x.toNat, by omega⟩
  obtain ⟨y', hy'⟩ : ∃ y' : Nat, y = y' := ⟨y.toNat, by omega⟩
  obtain ⟨A2, hsl, hcut⟩ := zIj zAb Tryz.underlying22 zCp A1 rs.length n1 x y x' y' hx' hy' (by omega) (by omega) hn1
  have HCU := hid (hcut _ _ _ HIX.out)
  have HRES : Hid (res = ((rs.take y').drop x', 0)) := by
    have h := HR.out.2.2 trivial (by show ¬ (x < 0 ∨ y < x ∨ (rs.length : Int) < y); omega)
    rw [hx', hy', Int.toNat_natCast, Int.toNat_natCast] at h
    exact h
  have hlen : Hid (((rs.take y').drop x').length = y' - x') := by show _ = _; simp; omega
  have hcnt : Hid (zAd ((rs.take y').drop x') ≤ 900000) := by
    have h1 := zE0 (rs.take y') x'
    have h2 := zAo rs y'
    have h3 := HC.out
    show _ ≤ _
    omega
  clear hcut h0 h1 h2 HR hx' hy'
  have HOE := hid (World.ownsRow_made (base := X.heap.size) (e := 24) (size := 4) X #[] 0 (Nat.le_refl _) (Nat.zero_le _) rfl)
  go_upto_region 6 with fail
  replace b1 := zDo X (.cells #[] 24) _ _ _ (by have := HBW.out.size; have := zGu b1; exact this) b1
  replace b2 := zDo X (.cells #[] 24) _ _ _ (by have := HBW.out.size; have := zGu b2; exact this) b2
  have hzz : w1.heap.size < X.heap.size := zGu n3
  have n4 := zDo X (.cells #[] 24) _ _ _ hzz n3
  generalize (rs.take y').drop x' = L at *
  have hlen2 : Hid (L.length ≤ 1000000) := by have h1 := zIk L; have h2 := hcnt.out; show _ ≤ _; omega
  go_wp2_with first
    | (refine app_old rfl (.tmp 36) (.tmp 43) rfl X.heap.size _ L rfl HOE.out _ _ _ rfl (old_read HCU.out) (by have := hlen2.out; omega) (by simp) ?_
       intro v2 w2 hr2 hb2
       have HO2 := hid hr2
       have HB2 := hid ((zAt X (.cells #[] 24)).trans hb2)
       clear hr2 hb2)
  refine bodyPost_ret (v := .tuple #[v2, .int .i64 0]) (by simp [results, Tryz.results19, go_sem]) rfl ?_
  rw [HRES.out]
  exact ⟨_, rfl, HO2.out, HBW.out.trans (HB2.out.mono HBW.out.size)⟩
set_option maxHeartbeats 400000 in
theorem zLb (p r:List Int) (Ap Ar:Option Addr) (cp cr:Nat) (w:World) (hp:zAh w (Lt w.heap.size) p (.slice Ap p.length cp)) (hr:zAh w (Lt w.heap.size) r (.slice Ar r.length cr)) (hl:p.length + r.length≤100000) :
  Calls Tryz.prog 139 #[.slice Ap p.length cp,.slice Ar r.length cr] w (zD7 w (p ++ r)):=by
 have hb1:=blA w (.cells #[] 3)
 have HP:=hid (hp.keep (S':=Lt w.heap.size) (fun q hq=>hb1.cell hq) (fun _ h=>h))
 have HR:=hid hr
 have HB1:=hid hb1
 have HE:=hid (own_emp (b:=w.heap.size) (zAc.at0 w (.cells #[] 3)) (Nat.le_refl _))
 clear hp hr hb1
 go_enter Tryz.func139,Tryz.ntmps139
 go_wp2_with (first
  | (at_builtin;refine zEg rfl (.tmp 5) (.tmp 6) rfl w.heap.size _ [] p rfl HE.out (Lt w.heap.size) _ _ _ rfl HP.out (by simp;omega) (by simp) ?_;intro v1 w1 ho1 hb1 _;rw [List.nil_append] at ho1;have HO1:=hid ho1;have HB2:=hid (HB1.out.trans hb1);clear ho1 hb1)
  | (at_builtin;refine zEg rfl (.tmp 7) (.tmp 8) rfl w.heap.size _ p r rfl HO1.out (Lt w.heap.size) _ _ _ rfl (HR.out.keep (fun q hq=>HB2.out.cell hq) (fun _ h=>h)) (by omega) HB2.out.size ?_;intro v2 w2 ho2 hb2 _;have HO2:=hid ho2;have HB3:=hid (HB2.out.trans hb2);clear ho2 hb2)
  | fail)
 go_ret
 exact ⟨_,rfl,HO2.out,HB3.out⟩
set_option maxHeartbeats 2000000 in
theorem zFk (t:Tree) (A:Option Addr) (cap:Nat) (but:Int) (w:World) (hv:zAa zAb w (Lt w.heap.size) t.kids (.slice A t.kids.length cap)) :
  Calls Tryz.prog 141 #[.agg #[.int .i64 t.kind,.string t.text,.int .i64 t.cols,.slice A t.kids.length cap],.int .i64 but] w (EqC w (zCf t.kids 0 but)):=by
 obtain ⟨tk,tx,tc,ts⟩:=t
 simp only [Tree.kind,Tree.text,Tree.cols,Tree.kids] at *
 obtain ⟨W0,hW0⟩:∃ W0,w.alloc (.cells #[.int .i64 tk,.string tx,.int .i64 tc,.slice A ts.length cap] 24) = W0:=⟨_,rfl⟩
 have hb0:Below w.heap.size w W0:=by rw [← hW0];exact blA _ _
 have m3:W0.cell? ⟨w.heap.size,3,none⟩ = some (.slice A ts.length cap):=by rw [← hW0];exact newC _ _ _ _ _ rfl
 have hv0:=hv.below hb0 hb0.size
 obtain ⟨_,_,rs,hq,hcap,hmax,hrd,hls⟩:=hv0
 cases hq
 unfold maxLen at hmax
 have hlen:ts.length≤9223372036854775807:=by omega
 have H:Hid (zBk W0 (Lt W0.heap.size) A rs∧zAw zAb W0 (Lt W0.heap.size) ts rs):=⟨hrd,hls⟩
 have HB0:=hid hb0
 clear hrd hls hv hb0
 go_enter Tryz.func141,Tryz.ntmps141
 go_wp2_with fail
 go_loop [5] (fun i=>∃ k:Nat,k≤ts.length∧i = .int .i64 k∧zCf (ts.drop k) (k:Int) but = zCf ts 0 but) (fun i=>ts.length - (intOf i).toNat)
 case atStart=>exact ⟨0,Nat.zero_le _,rfl,rfl⟩
 case round =>
  obtain ⟨k,hk,rfl,hrest⟩:=hrel
  have HR:=hid hrest
  clear hrest
  by_cases hlt:k < ts.length
  ·obtain ⟨g,o,B,bc,bs,rfl,hg,c0,c1,c2,c3,_,_,_,hc5,hc6,hrd,hls⟩:=zAy H.out.1 H.out.2 hlt
   have HT:=hid (zJu hlt but)
   have i0:(k:Int) < (ts.length:Int):=by omega
   have i00:(0:Int)≤(k:Int):=by omega
   clear hrd hls hc5 hc6 c0 c1 c2
   generalize ts[k] = x at *
   obtain ⟨xk,xt,xc,xs⟩:=x
   simp only [Tree.kind,Tree.text,Tree.cols,Tree.kids] at *
   by_cases h1:(k:Int) = but
   ·have i1:((k:Int) != but) = false:=by simp [h1]
    have HF:Hid (zCf (ts.drop (k + 1)) ((k + 1:Nat):Int) but = zCf ts 0 but):=by show _ = _;rw [← HR.out,HT.out];simp [h1]
    clear h1
    go_wp2_with fail
    go_round
    case rel=>exact ⟨k + 1,by omega,by go_num,HF.out⟩
    case measure=>simp [intOf];omega
   ·have i1:((k:Int) != but) = true:=by simp [h1]
    rcases Nat.eq_zero_or_pos xs.length with h2 | h2
    ·have HF:Hid (zCf (ts.drop (k + 1)) ((k + 1:Nat):Int) but = zCf ts 0 but):=by show _ = _;rw [← HR.out,HT.out];simp [h2]
     rw [h2] at c3
     clear h1 h2
     go_wp2_with fail
     go_round
     case rel=>exact ⟨k + 1,by omega,by go_num,HF.out⟩
     case measure=>simp [intOf];omega
    ·have HF:Hid (zCf ts 0 but = true):=by show _ = _;rw [← HR.out,HT.out];simp [h1,h2]
     have i2:(0:Int) < (xs.length:Int):=by omega
     clear h1
     go_wp2_with fail
     go_ret
     exact ⟨by rw [HF.out];rfl,HB0.out⟩
  ·have HF:Hid (zCf ts 0 but = false):=by show _ = _;rw [← HR.out,List.drop_of_length_le (by omega),zCf]
   have i0:decide ((k:Int) < (ts.length:Int)) = false:=by rw [decide_eq_false_iff_not];omega
   go_wp2_with fail
   go_ret
   exact ⟨by rw [HF.out];rfl,HB0.out⟩
def OwnO {α:Type} (E:Enc α) (T:TypeId) (w:World) (b:Nat) (S:Nat→Prop) (ts:List α) (v:Value):Prop:=∃ cs,w.ownsRow b T E.size v ts.length cs∧zAw E w S ts cs
section
variable {α:Type} {E:Enc α} {T:TypeId}
theorem OwnO.rows {w:World} {b:Nat} {S:Nat→Prop} {ts:List α} {v:Value} (h:OwnO E T w b S ts v) (S':Nat→Prop) (hS:∀ k,S k→S' k) (hb:∀ k,b≤k→k < w.heap.size→S' k):zAa E w S' ts v:=by
 obtain ⟨cs,h1,h2⟩:=h
 exact zAa.of_own (E:=E) h1 (fun k hk=>hb k (h1.lt k hk).1 (h1.lt k hk).2) (h2.keep (zCu _ _) hS)
end
set_option maxHeartbeats 1000000 in
theorem zLa (t:Tree) (p m:List Int) (A Ap Am:Option Addr) (cap cp cm:Nat) (w:World) (hv:zAa zAb w (Lt w.heap.size) t.kids (.slice A t.kids.length cap)) (htx:t.text.size≤maxLen) (hct:zAe t≤900000) (hp:zAh w (Lt w.heap.size) p (.slice Ap p.length cp)) (hm:zAh w (Lt w.heap.size) m (.slice Am m.length cm)) :
  Calls Tryz.prog 136 #[.agg #[.int .i64 t.kind,.string t.text,.int .i64 t.cols,.slice A t.kids.length cap],.agg #[.slice Ap p.length cp,.slice Am m.length cm]] w (BetV w (ofS t p m)):=by
 obtain ⟨W0,hW0⟩:∃ W0,((w.alloc (.cells #[.int .i64 t.kind,.string t.text,.int .i64 t.cols,.slice A t.kids.length cap] 24)).alloc (.cells #[.slice Ap p.length cp,.slice Am m.length cm] 33)).alloc (.cells #[.slice none 0 0,.int .i64 0,.int .i64 0] 46) = W0:=⟨_,rfl⟩
 have hz0:W0.heap.size = w.heap.size + 1 + 1 + 1:=by rw [← hW0];simp
 have hb0:Below w.heap.size w W0:=by rw [← hW0];exact zAp (zAp (blA _ _) _) _
 have ho1:zAc W0 w.heap.size (.cells #[.int .i64 t.kind,.string t.text,.int .i64 t.cols,.slice A t.kids.length cap] 24):=by rw [← hW0];exact ((zAc.at0 _ _).al _).al _
 have ho2:zAc W0 (w.heap.size + 1) (.cells #[.slice Ap p.length cp,.slice Am m.length cm] 33):=by rw [← hW0];exact (zAc.at1 _ _ _).al _
 have ho3:zAc W0 (w.heap.size + 1 + 1) (.cells #[.slice none 0 0,.int .i64 0,.int .i64 0] 46):=by rw [← hW0];exact zAc.at2 _ _ _ _
 have C:=hid (rOf_any t p m A Ap Am cap cp cm W0 (hv.below hb0 hb0.size) htx (hp.below hb0 hb0.size) (hm.below hb0 hb0.size) hct)
 have m0:=ho1.cell 0
 have m1:=ho1.cell 1
 have m2:=ho1.cell 2
 have m3:=ho1.cell 3
 have n0:=ho2.cell 0
 have n1:=ho2.cell 1
 simp only [List.getElem?_toArray,List.getElem?_cons_zero,List.getElem?_cons_succ] at m0 m1 m2 m3 n0 n1
 have HB0:=hid hb0
 have HZ0:=hid hz0
 have HO3:=hid ho3
 generalize ofS t p m = OF at *
 obtain ⟨⟨sr,sa,sb⟩,se⟩:=OF
 clear hv htx hct hp hm hb0 hz0 ho1 ho2 ho3
 go_enter Tryz.func136,Tryz.ntmps136
 go_wp2_with fail
 refine C.out.mono ?_
 rintro e w1 ⟨v1,rfl,hr1,hb1⟩
 simp only at hr1 ⊢
 obtain ⟨A1,c1,rfl⟩:=hr1.form
 have hq:=HO3.out.below hb1
 have HQ:=hid hq
 have HR:=hid hr1
 have HB1:=hid (HB0.out.trans (hb1.mono HB0.out.size))
 clear m0 m1 m2 m3 n0 n1 hr1 hb1 hq HO3
 go_wp2_with (first
  | (refine wpList_store_row rfl 46 (.tmp 4) (.tmp 9) rfl (w.heap.size + 1 + 1) _ rfl rfl 46 _ HQ.out (by kernel_rfl) (by simp) (by simp [Value.oneCell']) ?_)
  | fail)
 have hrow:=HQ.out.row #[.slice A1 sr.length c1,.int .i64 sa,.int .i64 sb]
 have r0:=hrow.cell 0
 have r1:=hrow.cell 1
 have r2:=hrow.cell 2
 simp only [List.getElem?_toArray,List.getElem?_cons_zero,List.getElem?_cons_succ] at r0 r1 r2
 refine bodyPost_ret (v:=.tuple #[.agg #[.slice A1 sr.length c1,.int .i64 sa,.int .i64 sb],.int .i64 se]) (by simp [results,Tryz.results136,go_sem,r0,r1,r2]) rfl ?_
 have hz:=HZ0.out
 exact ⟨_,rfl,HR.out.keep (fun q hq=>World.cell?_of_block (setRow_other _ _ _ _ (by have:=hq.1;omega))) (fun k hk=>⟨by have:=hk.1;omega,by rw [size_setRow];exact hk.2⟩),zAk HB1.out (by omega) _⟩
def cutL (r:List Int) (a:Int) (l:List Tree):List OpD:=if l.length = 0 then [] else [zBs r a l]
def OpsP (w:World) (ops:List OpD) (e:Ending) (w':World):Prop:=∃ v,e = .returned v∧zAa opE w' (Lt w'.heap.size) ops v∧Below w.heap.size w w'
def OpsO (w:World) (ops:List OpD) (e:Ending) (w':World):Prop:=∃ v b,e = .returned v∧OwnO opE 67 w' b (Lt b) ops v∧w.heap.size≤b∧b≤w'.heap.size∧Below w.heap.size w w'
theorem OpsO.p {w w':World} {ops:List OpD} {e:Ending} (h:OpsO w ops e w'):OpsP w ops e w':=by
 obtain ⟨v,b,rfl,h,h1,h2,h3⟩:=h
 exact ⟨v,rfl,h.rows _ (fun k hk=>Nat.lt_of_lt_of_le hk h2) (fun k _ hk=>hk),h3⟩
set_option maxHeartbeats 1000000 in
theorem zMo (t:Tree) (r:List Int) (a b:Int) (A Ar:Option Addr) (cap cr:Nat) (w:World) (hv:zAa zAb w (Lt w.heap.size) t.kids (.slice A t.kids.length cap)) (hok:zAu t) (hct:zAe t≤900000) (hr:zAh w (Lt w.heap.size) r (.slice Ar r.length cr)) (ha:In64 a) (hb:In64 b) :
  Calls Tryz.prog 137 #[.agg #[.int .i64 t.kind,.string t.text,.int .i64 t.cols,.slice A t.kids.length cap],.agg #[.slice Ar r.length cr,.int .i64 a,.int .i64 b]] w (OpsO w (cutL r a (zCd t r a b).1)):=by
 obtain ⟨W0,hW0⟩:∃ W0,(w.alloc (.cells #[.int .i64 t.kind,.string t.text,.int .i64 t.cols,.slice A t.kids.length cap] 24)).alloc (.cells #[.slice Ar r.length cr,.int .i64 a,.int .i64 b] 46) = W0:=⟨_,rfl⟩
 have hb0:Below w.heap.size w W0:=by rw [← hW0];exact zAp (blA _ _) _
 have ho1:zAc W0 w.heap.size (.cells #[.int .i64 t.kind,.string t.text,.int .i64 t.cols,.slice A t.kids.length cap] 24):=by rw [← hW0];exact (zAc.at0 _ _).al _
 have ho2:zAc W0 (w.heap.size + 1) (.cells #[.slice Ar r.length cr,.int .i64 a,.int .i64 b] 46):=by rw [← hW0];exact zAc.at1 _ _ _
 have C:=hid (zOp t r a b A Ar cap cr W0 (hv.below hb0 hb0.size) hok hct (hr.below hb0 hb0.size) ha hb)
 have m0:=ho1.cell 0
 have m1:=ho1.cell 1
 have m2:=ho1.cell 2
 have m3:=ho1.cell 3
 have n0:=ho2.cell 0
 have n1:=ho2.cell 1
 have n2:=ho2.cell 2
 simp only [List.getElem?_toArray,List.getElem?_cons_zero,List.getElem?_cons_succ] at m0 m1 m2 m3 n0 n1 n2
 have HB0:=hid hb0
 have HO2:=hid ho2
 have HRO:=hid hr
 have HA:=hid ha
 generalize zCd t r a b = IR at *
 obtain ⟨l,ie⟩:=IR
 clear hv hok hct hr ha hb hb0 ho1 ho2
 go_enter Tryz.func137,Tryz.ntmps137
 go_wp2_with fail
 refine C.out.mono ?_
 rintro e w1 ⟨v1,rfl,hr1,hb1⟩
 simp only at hr1 ⊢
 obtain ⟨A1,c1,rfl⟩:=hr1.form
 have hq:=HO2.out.below hb1
 have HR:=hid hr1
 have HB1:=hid (HB0.out.trans (hb1.mono HB0.out.size))
 clear m0 m1 m2 m3 n0 n1 n2 hr1 hb1 HO2
 have n0:=hq.cell 0
 have n1:=hq.cell 1
 simp only [List.getElem?_toArray,List.getElem?_cons_zero,List.getElem?_cons_succ] at n0 n1
 clear hq
 rcases Nat.eq_zero_or_pos l.length with h0 | h0
 ·have HE:Hid (cutL r a l = []):=by show _ = _;unfold cutL;exact if_pos h0
  have i0:((l.length:Int) == 0) = true:=by simp [h0]
  clear h0
  go_wp2_with fail
  go_ret
  rw [HE.out]
  exact ⟨_,w1.heap.size,rfl,⟨[],World.ownsRow_nil _ _ _ _,rfl⟩,HB1.out.size,Nat.le_refl _,HB1.out⟩
 ·have HE:Hid (cutL r a l = [zBs r a l]):=by show _ = _;unfold cutL;exact if_neg (by omega)
  have i0:((l.length:Int) == 0) = false:=by rw [beq_eq_false_iff_ne];omega
  clear h0
  go_wp2_with fail
  go_ret
  rw [HE.out]
  have hz:(⟨#[]⟩:ByteArray).size≤maxLen:=Nat.zero_le _
  have hx:opE.R w1 (Lt w1.heap.size) (zBs r a l) [.int .i64 2,.slice Ar r.length cr,.int .i64 a,.int .i64 0,.slice A1 l.length c1,.int .i64 0,.string ⟨#[]⟩,.string ⟨#[]⟩]:=⟨_,_,rfl,by unfold In64 zBs;simp,HA.out,by unfold In64 zBs;simp,by unfold In64 zBs;simp,hz,hz,HRO.out.below HB1.out HB1.out.size,HR.out⟩
  have ho:=World.ownsRow_lit (base:=w1.heap.size) (e:=67) (size:=8) w1 #[.int .i64 2,.slice Ar r.length cr,.int .i64 a,.int .i64 0,.slice A1 l.length c1,.int .i64 0,.string ⟨#[]⟩,.string ⟨#[]⟩] 1 (Nat.le_refl _) (by simp [maxLen]) rfl
  exact ⟨_,w1.heap.size,rfl,⟨_,ho,zAw.single (opE.keep hx (fun q hq=>(blA w1 _).cell hq) (fun k hk=>hk))⟩,HB1.out.size,(blA w1 _).size,HB1.out.trans ((blA w1 _).mono HB1.out.size)⟩
theorem zOq (t:Tree) (r:List Int) (a b:Int) (A Ar:Option Addr) (cap cr:Nat) (w:World) (hv:zAa zAb w (Lt w.heap.size) t.kids (.slice A t.kids.length cap)) (hok:zAu t) (hct:zAe t≤900000) (hr:zAh w (Lt w.heap.size) r (.slice Ar r.length cr)) (ha:In64 a) (hb:In64 b) :
  Calls Tryz.prog 137 #[.agg #[.int .i64 t.kind,.string t.text,.int .i64 t.cols,.slice A t.kids.length cap],.agg #[.slice Ar r.length cr,.int .i64 a,.int .i64 b]] w (OpsP w (cutL r a (zCd t r a b).1)):=(zMo t r a b A Ar cap cr w hv hok hct hr ha hb).mono fun _ _ h=>h.p
end Go.Proofs.YtbjcioknfjofkaaGreat
namespace Go.Proofs.YtbjcioknfjofkaaGreat
open Go.RowKit Go.ChangeShapes Go.WideShapes Go.ChangeAt
theorem own:ownKnob Tryz.prog.godebug = none:=by kernel_rfl
theorem laidOut:laidOutB Tryz.prog = true:=by kernel_rfl
theorem rd_node:Tryz.prog.readableRec 24 = true∧24 < Tryz.prog.types.size:=⟨by kernel_rfl,of_decide_eq_true (by kernel_rfl)⟩
section
variable {H:Type} {enc:TypeId × Value→H} {w:World} {base:Nat} {spare:Nat→Bool} {held:Bool}
theorem zP3 {r:Reach} {b0:Nat} {v:Value} {d:DataW H} {ps:List MemPlace} (hv:Value.okWide Tryz.prog w r b0 24 v) (h:DataW.Trod enc Tryz.prog w base spare held 24 v d ps) :
  ∃ (t:Tree) (A:Option Addr) (c:Nat),v = .agg #[.int .i64 t.kind,.string t.text,.int .i64 t.cols,.slice A t.kids.length c]∧In64 t.kind∧In64 t.cols∧t.text.size≤maxLen∧zOc w (Lt w.heap.size) t.kids (.slice A t.kids.length c):=by
 obtain ⟨cs,rfl,hsz⟩:=okWide_struct Tryz.underlying24 hv
 obtain ⟨fuel,hf⟩:=h
 obtain ⟨t,ht⟩:=zPs fuel _ _ hf
 obtain ⟨v,hcs,h1,h2,h3,h4⟩:=zB1.1 ht
 obtain ⟨A,c,rfl⟩:=h4.form
 refine ⟨t,A,c,?_,h1,h2,h3,h4⟩
 congr 1
 exact Array.toList_inj.1 hcs
end
theorem rd_bool:Tryz.prog.readableRec 4 = true∧4 < Tryz.prog.types.size:=⟨by kernel_rfl,of_decide_eq_true (by kernel_rfl)⟩
theorem zPt:Tryz.prog.readableRec 33 = true∧33 < Tryz.prog.types.size:=⟨by kernel_rfl,of_decide_eq_true (by kernel_rfl)⟩
section
variable {H:Type} {enc:TypeId × Value→H} {w:World} {base:Nat} {spare:Nat→Bool} {held:Bool}
theorem zMc:Tryz.prog.cellsOf 33 = 2:=by kernel_rfl
theorem zMm {fuel : Nat} {cs : List Value} {x : DataW H × List MemPlace} (h : DataW.trod enc Tryz.prog w base spare held fuel 33 cs = some x) : ∃ p m vp vm, cs = [vp, vm] ∧ zAh w (Lt w.heap.size) p vp ∧ zAh w (Lt w.heap.size) m vm := by
  obtain ⟨xs, n, hfu, hx, hlen, hxl, hf⟩ := DataW.trod_struct Tryz.underlying33 h
  rw [zMc] at hlen
  match cs, hlen with
  | [c0, c1], _ =>
    have g0 : DataW.trod enc Tryz.prog w base spare held n 31 (([c0, c1].drop 0).take (Tryz.prog.cellsOf 31)) = xs[0]? := hf 0 _ rfl
    rw [zJw] at g0
    have f0 : DataW.trod enc Tryz.prog w base spare held n 31 [c0] = xs[0]? := g0
    have g1 : DataW.trod enc Tryz.prog w base spare held n 31 (([c0, c1].drop 1).take (Tryz.prog.cellsOf 31)) = xs[1]? := hf 1 _ rfl
    rw [zJw] at g1
    have f1 : DataW.trod enc Tryz.prog w base spare held n 31 [c1] = xs[1]? := g1
    have hxl' : xs.length = 2 := hxl
    obtain ⟨y0, e0⟩ := zGj f0 (by omega)
    obtain ⟨y1, e1⟩ := zGj f1 (by omega)
    obtain ⟨a0, v0, q0, h0⟩ := zK9 e0
    obtain ⟨a1, v1, q1, h1⟩ := zK9 e1
    simp only [List.cons.injEq, and_true] at q0 q1
    subst q0 q1
    exact ⟨a0, a1, _, _, rfl, h0, h1⟩
theorem zMu {r:Reach} {b0:Nat} {v:Value} {d:DataW H} {ps:List MemPlace} (hv:Value.okWide Tryz.prog w r b0 33 v) (h:DataW.Trod enc Tryz.prog w base spare held 33 v d ps) :
  ∃ (p m:List Int) (Ap Am:Option Addr) (cp cm:Nat),v = .agg #[.slice Ap p.length cp,.slice Am m.length cm]∧zAh w (Lt w.heap.size) p (.slice Ap p.length cp)∧zAh w (Lt w.heap.size) m (.slice Am m.length cm):=by
 obtain ⟨cs,rfl,hsz⟩:=okWide_struct Tryz.underlying33 hv
 obtain ⟨fuel,hf⟩:=h
 obtain ⟨p,m,vp,vm,hcs,h1,h2⟩:=zMm hf
 obtain ⟨Ap,cp,rfl⟩:=h1.form
 obtain ⟨Am,cm,rfl⟩:=h2.form
 refine ⟨p,m,Ap,Am,cp,cm,?_,h1,h2⟩
 congr 1
 exact Array.toList_inj.1 hcs
end
end Go.Proofs.YtbjcioknfjofkaaGreat
