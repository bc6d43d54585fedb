/- Texts put together. -/
import Derived.Test.YtbjcioknfjofkaaGreatQ2a6bd4da00
import Derived.Test.YtbjcioknfjofkaaGreatQb55496f77f
import Derived.Test.YtbjcioknfjofkaaGreatQ15642f0ed8
import Derived.Test.YtbjcioknfjofkaaGreatQ6da73ac3b1
import Derived.Test.YtbjcioknfjofkaaGreatQ0a2d1212ff
import Derived.Test.YtbjcioknfjofkaaGreatQ780eb66c79
import Derived.Test.YtbjcioknfjofkaaGreatQ5f8487fc8c
import Derived.Test.YtbjcioknfjofkaaGreatQ075cf82eb7
import Derived.Test.YtbjcioknfjofkaaGreatQbd13932ac5
import Derived.Test.YtbjcioknfjofkaaGreatQ738aa96999
import Derived.Test.YtbjcioknfjofkaaGreatQ62b719411c
import Derived.Test.YtbjcioknfjofkaaGreatQaecae719be
import Derived.Test.YtbjcioknfjofkaaGreatQ1e47636b8b
import Derived.IntWalk
import Derived.Lib.LazyBuf
import Derived.ProofKit
import Derived.OpenShut
import Derived.Carry
set_option linter.unusedVariables false
set_option linter.unusedSimpArgs false
set_option maxRecDepth 100000
namespace Go.Proofs.YtbjcioknfjofkaaGreat
open Go.RowKit
set_option maxHeartbeats 2000000 in
theorem zNb (p m:List Int) (Ap Am:Option Addr) (cp cm:Nat) (w:World) (hp:zAh w (Lt w.heap.size) p (.slice Ap p.length cp)) (hm:zAh w (Lt w.heap.size) m (.slice Am m.length cm)) (hpl:p.length≤1000000) (hml:m.length≤1000000) :
  Calls Tryz.prog 74 #[.agg #[.slice Ap p.length cp,.slice Am m.length cm]] w fun e w'=>∃ Ap' cp' Am' cm',e = .returned (.agg #[.slice Ap' p.length cp',.slice Am' m.length cm'])∧zAh w' (New w w') p (.slice Ap' p.length cp')∧zAh w' (New w w') m (.slice Am' m.length cm')∧Below w.heap.size w w':=by
 obtain ⟨W0,hW0⟩:∃ W0,(w.alloc (.cells #[.slice Ap p.length cp,.slice Am m.length cm] 33)).alloc (.cells #[.slice none 0 0,.slice none 0 0] 33) = W0:=⟨_,rfl⟩
 have hz0:W0.heap.size = w.heap.size + 1 + 1:=by rw [← hW0];simp
 have hb0:Below w.heap.size w W0:=by rw [← hW0];exact ((Below.refl _ _).alloc (Nat.le_refl _) _).alloc (by simp) _
 have KB:Hid (∀ W,Below W0.heap.size W0 W→W.cell? ⟨w.heap.size,0,none⟩ = some (.slice Ap p.length cp)∧W.cell? ⟨w.heap.size,1,none⟩ = some (.slice Am m.length cm)∧W.cell? ⟨w.heap.size + 1,0,none⟩ = some (.slice none 0 0)∧W.cell? ⟨w.heap.size + 1,1,none⟩ = some (.slice none 0 0)∧W.frozen? ⟨w.heap.size + 1,0,none⟩ = false∧W.frozen? ⟨w.heap.size + 1,1,none⟩ = false∧Below w.heap.size w W):=fun W hW=>by
  have ho1:zAc W w.heap.size (.cells #[.slice Ap p.length cp,.slice Am m.length cm] 33):=zAc.belowB (by rw [← hW0];exact (zAc.at0 _ _).al _) hW (by omega)
  have ho2:zAc W (w.heap.size + 1) (.cells #[.slice none 0 0,.slice none 0 0] 33):=zAc.belowB (by rw [← hW0];exact zAc.at1 _ _ _) hW (by omega)
  exact ⟨ho1.cell 0,ho1.cell 1,ho2.cell 0,ho2.cell 1,ho2.free 0,ho2.free 1,hb0.trans (hW.mono hb0.size)⟩
 have CI:Hid (∀ W,Below w.heap.size w W→Calls Tryz.prog 105 #[.slice Ap p.length cp] W (zD7 W p)):=fun W hW=>zEe p W _ (hp.below hW hW.size) hpl
 have CM:Hid (∀ W,Below w.heap.size w W→Calls Tryz.prog 105 #[.slice Am m.length cm] W (zD7 W m)):=fun W hW=>zEe m W _ (hm.below hW hW.size) hml
 have HB0:=hid hb0
 have HZ0:=hid hz0
 obtain ⟨m0,m1,r0,r1,f0,f1,_⟩:=KB.out W0 (Below.refl _ _)
 clear hp hm hpl hml hb0 hz0
 go_enter Tryz.func74,Tryz.ntmps74
 go_wp2_with fail
 go_region_held3 (fun w'=>w'.cell? ⟨w.heap.size,0,none⟩ = some (.slice Ap p.length cp)∧w'.cell? ⟨w.heap.size,1,none⟩ = some (.slice Am m.length cm)) (go_keep) (first
  | (go_at_call 105;refine (CI.out _ (zC2 HB0.out)).mono ?_;rintro e w3 ⟨v3,rfl,ho3,hb3⟩;have hr3:zAh w3 (fun k=>W0.heap.size≤k∧k < w3.heap.size) p v3:=ho3.ints (fun k h1 h2=>⟨h1,h2⟩);obtain ⟨A3,c3,rfl⟩:=hr3.form;have HR3:=hid hr3;have HB3:=hid (zC7 hb3);obtain ⟨m0,m1,r0,r1,f0,f1,hbw⟩:=KB.out w3 HB3.out;have HW3:=hid hbw;clear hr3 ho3 hb3 hbw)
  | (go_at_call 105;refine (CM.out _ HW3.out).mono ?_;rintro e w4 ⟨v4,rfl,ho4,hb4⟩;have hr4:zAh w4 (fun k=>w3.heap.size≤k∧k < w4.heap.size) m v4:=ho4.ints (fun k h1 h2=>⟨h1,h2⟩);obtain ⟨A4,c4,rfl⟩:=hr4.form;have HR4:=hid hr4;have HB4:=hid hb4;have HB5:=hid (HB3.out.trans (hb4.mono HB3.out.size));obtain ⟨m0,m1,r0,r1,f0,f1,hbw⟩:=KB.out w4 HB5.out;have HW4:=hid hbw;clear hr4 ho4 hb4 hbw)
  | fail)
 go_wp2_with fail
 have h9:∀ q:Addr,W0.heap.size≤q.block→((w4.setCell ⟨w.heap.size + 1,0,none⟩ (.slice A3 p.length c3)).setCell ⟨w.heap.size + 1,1,none⟩ (.slice A4 m.length c4)).cell? q = w4.cell? q:=fun q hq=>by
  have:=HZ0.out
  rw [World.cell?_setCell_other _ _ _ _ (by intro e;rw [← e] at hq;simp only at hq;omega),World.cell?_setCell_other _ _ _ _ (by intro e;rw [← e] at hq;simp only at hq;omega)]
 have e0:((w4.setCell ⟨w.heap.size + 1,0,none⟩ (.slice A3 p.length c3)).setCell ⟨w.heap.size + 1,1,none⟩ (.slice A4 m.length c4)).cell? ⟨w.heap.size + 1,0,none⟩ = some (.slice A3 p.length c3):=(World.cell?_setCell_other _ _ _ _ (by intro e;injection e with e e';cases e')).trans (World.cell?_setCell_same _ _ _ r0)
 have e1:((w4.setCell ⟨w.heap.size + 1,0,none⟩ (.slice A3 p.length c3)).setCell ⟨w.heap.size + 1,1,none⟩ (.slice A4 m.length c4)).cell? ⟨w.heap.size + 1,1,none⟩ = some (.slice A4 m.length c4):=World.cell?_setCell_same _ _ _ ((World.cell?_setCell_other _ _ _ _ (by intro e;injection e with e e';cases e')).trans r1)
 have hb9:=(HW4.out.setCell (p:=⟨w.heap.size + 1,0,none⟩) (Nat.le_succ _) (.slice A3 p.length c3)).setCell (p:=⟨w.heap.size + 1,1,none⟩) (Nat.le_succ _) (.slice A4 m.length c4)
 have hz9:((w4.setCell ⟨w.heap.size + 1,0,none⟩ (.slice A3 p.length c3)).setCell ⟨w.heap.size + 1,1,none⟩ (.slice A4 m.length c4)).heap.size = w4.heap.size:=by simp [World.setCell]
 have h3:=HB3.out.size
 have h4:=HB4.out.size
 have hz:=HZ0.out
 refine bodyPost_ret (v:=.agg #[.slice A3 p.length c3,.slice A4 m.length c4]) (by simp [results,Tryz.results74,go_sem,e0,e1]) rfl ?_
 exact ⟨A3,c3,A4,c4,rfl,HR3.out.keep (fun q hq=>(h9 q hq.1).trans (HB4.out.cell hq.2)) (fun k hk=>⟨by have:=hk.1;omega,by rw [hz9];exact Nat.lt_of_lt_of_le hk.2 h4⟩),HR4.out.keep (fun q hq=>h9 q (by have:=hq.1;omega)) (fun k hk=>⟨by have:=hk.1;omega,by rw [hz9];exact hk.2⟩),hb9⟩
def InfoE (T:TypeId) (z:Value) (size bytes:Nat):Prop:=∃ i,Tryz.prog.info? T = some i∧i.zero = some z∧i.size = size∧i.bytes = bytes
def OwnE {α:Type} (E:Enc α) (T:TypeId) (w:World) (b:Nat) (ts:List α) (v:Value):Prop:=∃ cs,w.ownsRow b T E.size v ts.length cs∧zAw E w (zBt b w v) ts cs
section
variable {α:Type} {E:Enc α} {T:TypeId}
theorem OwnE.rows {w:World} {b:Nat} {ts:List α} {v:Value} (h:OwnE E T w b ts v):zAa E w (fun k=>b≤k∧k < w.heap.size) ts v:=by
 obtain ⟨cs,h1,h2⟩:=h
 exact zAa.of_own (E:=E) h1 (fun k hk=>⟨(h1.lt k hk).1,(h1.lt k hk).2⟩) (h2.keep (zCu _ _) (fun k hk=>⟨hk.1,hk.2.1⟩))
theorem OwnE.nil (w:World) (b:Nat):OwnE E T w b [] (.slice none 0 0):=⟨[],World.ownsRow_nil _ _ _ _,rfl⟩
theorem OwnE.below {w w':World} {b:Nat} {ts:List α} {v:Value} (h:OwnE E T w b ts v) (hb:Below w.heap.size w w'):OwnE E T w' b ts v:=by
 obtain ⟨cs,h1,h2⟩:=h
 exact ⟨cs,zFc _ h1 hb,h2.keep (S:=zBt b w v) (fun p hp=>hb.cell hp.2.1) (fun k hk=>⟨hk.1,Nat.lt_of_lt_of_le hk.2.1 hb.size,hk.2.2⟩)⟩
theorem OwnE.own_lt {w:World} {b:Nat} {ts:List α} {v:Value} (h:OwnE E T w b ts v):∀ k,v.ownBlock = some k→b≤k∧k < w.heap.size:=by
 obtain ⟨cs,h1,_⟩:=h
 exact fun k hk=>h1.lt k hk
theorem OwnE.form {w:World} {b:Nat} {ts:List α} {v:Value} (h:OwnE E T w b ts v):∃ A c,v = .slice A ts.length c:=h.rows.form
variable {w:World} {b:Nat} {xss yss:List α} {v:Value}
theorem zOr {w':World} {v':Value} {cs rs:List Value} (h1:w.ownsRow b T E.size v xss.length cs) (h2:zAw E w (zBt b w v) xss cs) (hls:zAw E w (zBt b w v) yss rs)
  (h3:w'.ownsRow b T E.size v' (xss.length + yss.length) (cs ++ rs)) (h4:w.grownBy w' v.ownBlock) (h5:v'.ownBlock = v.ownBlock∨v'.ownBlock = some w.heap.size):OwnE E T w' b (xss ++ yss) v':=by
 refine ⟨cs ++ rs,by rw [List.length_append];exact h3,?_⟩
 refine (h2.append hls).keep (S:=zBt b w v) (fun p hp=>World.cell?_of_block (h4.block p.block hp.2.1 hp.2.2)) (fun k hk=>⟨hk.1,Nat.lt_of_lt_of_le hk.2.1 h4.size,?_⟩)
 rcases h5 with h5 | h5
 ·rw [h5];exact hk.2.2
 ·rw [h5];intro e;injection e with e;have:=hk.2.1;omega
theorem one_E {w2:World} {b b2:Nat} {t:α} {v:Value} {arr:Array Value} (hR:E.R w2 (fun k=>b2≤k∧k < w2.heap.size) t arr.toList) (hb:b≤b2) (hv:∀ k,v.ownBlock = some k→k < b2) (h2:b2≤w2.heap.size) (g:Nat) (hg:g = w2.heap.size) (e:TypeId) :
  zAa E (w2.alloc (.cells arr e)) (zBt b (w2.alloc (.cells arr e)) v) [t] (.slice (some ⟨g,0,none⟩) 1 1):=by
 subst hg
 have hi:=E.keep (w':=w2.alloc (.cells arr e)) (S':=zBt b (w2.alloc (.cells arr e)) v) hR (fun p hp=>(zAl _ _).cell hp.2) (fun k hk=>⟨Nat.le_trans hb hk.1,by simp;omega,fun e=>by have:=hv k e.symm;omega⟩)
 refine ⟨_,_,arr.toList,rfl,Nat.le_refl _,by simp [maxLen],fun _=>⟨w2.heap.size,0,rfl,⟨by omega,by simp,fun e=>by have:=hv _ e.symm;omega⟩,fun j x hx=>?_⟩,zAw.single hi⟩
 rw [Nat.zero_add,World.cell?_alloc_new]
 simpa using hx
end
theorem zHv (L:List Tree):zAu (rowT L):=⟨by unfold In64;simp [rowT,Tree.kind],by unfold In64;simp [rowT,Tree.cols],show (⟨#[]⟩:ByteArray).size≤maxLen from Nat.zero_le _⟩
theorem zIq {W W':World} {T:Nat→Prop} (hL:zDc W T) (hT:∀ k,T k→k < W.heap.size) {B:Nat} {t:Tree} {s b x c:Nat} (hB:¬ T B) (hN:zC3 W T B 0 t) (hs:s < t.kids.length) (h3:W.cell? ⟨B,3,none⟩ = some (.slice (some ⟨b,x,none⟩) t.kids.length c)) (hb:T b)
  {L0 L:List Tree} (hk:t.kids[s] = rowT L0) {vL:Value} {S2 T':Nat→Prop} (hvl:zAa zAb W S2 L vL) (hS2:∀ q,S2 q→q≠b∧q < W.heap.size) (hTT:∀ k,T k→T' k) (hST:∀ k,S2 k→T' k) (hW':W' = W.setCell ⟨b,x + s * 4 + 3,none⟩ vL):zC3 W' T' B 0 (zAr t s L):=by
 have hBb:B≠b:=fun e=>hB (e ▸ hb)
 have hsz:W'.heap.size = W.heap.size:=by rw [hW'];simp [World.setCell]
 have hk0:=zJj hN (by simpa using h3) hs
 rw [hk] at hk0
 obtain ⟨v0,⟨k0,k1,k2,k3⟩,_,_⟩:=hk0
 have hoth:∀ q:Addr,q≠⟨b,x + s * 4 + 3,none⟩→W'.cell? q = W.cell? q:=fun q hq=>by rw [hW'];exact World.cell?_setCell_other _ _ _ _ (Ne.symm hq)
 have hnew:zC3 W' T' b (x + s * 4) (rowT L) :=
  ⟨vL,⟨(hoth ⟨b,x + s * 4,none⟩ (by simp)).trans k0,(hoth ⟨b,x + s * 4 + 1,none⟩ (by simp)).trans k1,(hoth ⟨b,x + s * 4 + 2,none⟩ (by simp)).trans k2,by rw [hW'];exact World.cell?_setCell_same _ _ _ k3⟩,zHv L,
   hvl.keep (fun q hq=>hoth q (fun e=>(hS2 _ hq).1 (by rw [e]))) hST⟩
 have hloc:Loc W T B 0 t [s] b (x + s * 4):=.step B 0 t s [] b x c hs _ _ h3 hb (.here _ _ _)
 exact zK3 (T':=T') hL (rowT L) (fun q hq hqo=>hoth q (by rintro rfl;rcases hqo rfl with h | h <;> simp at h <;> omega)) hTT hnew hloc (.inr ⟨hB,fun j _=>hoth _ (fun e=>hBb (by injection e))⟩) hN
theorem zGo {W:World} {T:Nat→Prop} {ts:List Tree} {v:Value} (h:zAa zAb W T ts v) (h0:0 < ts.length):∃ b x c,v = .slice (some ⟨b,x,none⟩) ts.length c∧T b:=by
 obtain ⟨A,cap,rs,rfl,_,_,h3,h4⟩:=h
 have hl:=h4.len
 obtain ⟨g,o,rfl,hg,_⟩:=h3 (by rw [hl];exact Nat.mul_pos h0 zAb.pos)
 exact ⟨g,o,cap,rfl,hg⟩
theorem zPx {W W':World} {T S2 T':Nat→Prop} (hL:zDc W T) (hT:∀ k,T k→k < W.heap.size) {B:Nat} {t:Tree} {p:List Int} {l:List Tree} {g o:Nat} (hB:¬ T B) (hN:zC3 W T B 0 t) (hf:(zAm t p).2 = true) (hloc:Loc W T B 0 t (p.map Int.toNat) g o)
  {t':Tree} (hN':zC3 W T g o t') {v:Value} (hv:zAa zAb W S2 l v) (hS2:∀ q,S2 q→¬ T q∧q≠B∧q < W.heap.size)
  (hTT:∀ k,T k→T' k) (hST:∀ k,S2 k→T' k) (hW:W' = (((W.setCell ⟨g,o,none⟩ (.int .i64 1)).setCell ⟨g,o + 1,none⟩ (.string ⟨#[]⟩)).setCell ⟨g,o + 2,none⟩ (.int .i64 0)).setCell ⟨g,o + 3,none⟩ v):zC3 W' T' B 0 (putS t p l):=by
 obtain ⟨v0,⟨d0,d1,d2,d3⟩,_⟩:=hN'
 obtain ⟨r,hz,_,hne,_,_⟩:=zC4 d0 d1 d2 d3 (.int .i64 1) (.string ⟨#[]⟩) (.int .i64 0) v hW
 have hgq:∀ q,S2 q→q≠g:=fun q hq e=>by
  subst e
  rcases hloc.where_ with ⟨_,h,_⟩ | h
  ·exact (hS2 _ hq).2.1 h
  ·exact (hS2 _ hq).1 h.mem
 have hnew:zC3 W' T' g o (rowT l):=⟨v,r,zHv l,hv.keep (fun q hq=>hne q (hgq _ hq)) hST⟩
 rcases hloc.where_ with ⟨h1,rfl,rfl⟩ | h
 ·have:p = []:=List.map_eq_nil_iff.1 h1
  subst this
  exact hnew
 ·rw [zJb p t l hf]
  have hgB:B≠g:=fun e=>hB (e ▸ h.mem)
  refine zK3 (T':=T') hL (rowT l) (fun q hq hqo=>?_) hTT hnew hloc (.inr ⟨hB,fun j _=>hne _ hgB⟩) hN
  have h9:∀ j,j < 4→(⟨g,o + j,none⟩:Addr)≠q:=fun j hj e=>by
   have h8:=hqo (by rw [← e])
   rw [← e] at h8
   rcases h8 with h8 | h8 <;> simp at h8 <;> omega
  rw [hW,World.cell?_setCell_other _ _ _ _ (h9 3 (by omega)),World.cell?_setCell_other _ _ _ _ (h9 2 (by omega)),World.cell?_setCell_other _ _ _ _ (h9 1 (by omega))]
  exact World.cell?_setCell_other _ _ _ _ (h9 0 (by omega))
def AllRes (w:World) (b:Bool) (L:List (List Int)) (e:Ending) (w':World):Prop :=
 Below w.heap.size w w'∧((b = false∧e = .returned (.tuple #[.slice none 0 0,.int .i64 1]))∨(b = true∧∃ v,e = .returned (.tuple #[v,.int .i64 0])∧zBq w' w.heap.size L v))
set_option maxHeartbeats 1000000 in
theorem zNx (t:Tree) (A:Option Addr) (cap:Nat) (w:World) (hv:zAa zAb w (Lt w.heap.size) t.kids (.slice A t.kids.length cap)) (htx:t.text.size≤maxLen) (hct:zAe t≤900000) :
  Calls Tryz.prog 14 #[.agg #[.int .i64 t.kind,.string t.text,.int .i64 t.cols,.slice A t.kids.length cap]] w (AllRes w (zAf t) (allS [] t)):=by
 have HB0:Hid (Below w.heap.size w (w.alloc (Obj.cells #[.int .i64 t.kind,.string t.text,.int .i64 t.cols,.slice A t.kids.length cap] 24))):=zAl _ _
 have C1:Hid (∀ W,Below w.heap.size w W→Calls Tryz.prog 35 #[.agg #[.int .i64 t.kind,.string t.text,.int .i64 t.cols,.slice A t.kids.length cap]] W fun e w'=>e = .returned (.bool (zAf t))∧Below W.heap.size W w'):=fun W hW=>zDx t A cap W (hv.below hW hW.size) htx (by omega)
 have C2:Hid (∀ W,Below w.heap.size w W→Calls Tryz.prog 36 #[.agg #[.int .i64 t.kind,.string t.text,.int .i64 t.cols,.slice A t.kids.length cap],.slice none 0 0] W (zIy W (allS [] t))) :=
  fun W hW=>allR_any t [] A none cap 0 W (hv.below hW hW.size) (zAa.nil_ 0 (by simp) none) (by simp;omega)
 have KB:Hid (∀ W,Below (w.alloc (Obj.cells #[.int .i64 t.kind,.string t.text,.int .i64 t.cols,.slice A t.kids.length cap] 24)).heap.size (w.alloc (Obj.cells #[.int .i64 t.kind,.string t.text,.int .i64 t.cols,.slice A t.kids.length cap] 24)) W→NBox W w.heap.size t.kind t.cols t.text (.slice A t.kids.length cap)) :=
  fun W hW=>(NBox.new w t.kind t.cols t.text _).below hW (by simp)
 generalize allS [] t = L at *
 generalize zAf t = b at *
 obtain ⟨tk,tx,tc,ts⟩:=t
 simp only [Tree.kind,Tree.text,Tree.cols,Tree.kids] at *
 clear hv htx hct
 cases b
 ·go_enter Tryz.func14,Tryz.ntmps14
  go_wp2_with fail
  refine (C1.out _ HB0.out).mono ?_
  rintro e w1 ⟨rfl,hb1⟩
  have HB1:=hid (HB0.out.trans (hb1.mono HB0.out.size))
  clear hb1
  go_wp2_with fail
  go_ret2
  exact ⟨HB1.out,.inl ⟨rfl,rfl⟩⟩
 ·go_enter Tryz.func14,Tryz.ntmps14
  go_wp2_with fail
  refine (C1.out _ HB0.out).mono ?_
  rintro e w1 ⟨rfl,hb1⟩
  have HB1:=hid (HB0.out.trans (hb1.mono HB0.out.size))
  obtain ⟨p0,p1,p2,p3⟩:=KB.out w1 hb1
  clear hb1
  go_wp2_with fail
  refine (C2.out _ HB1.out).mono ?_
  rintro e w2 ⟨v2,rfl,hr2,hb2⟩
  obtain ⟨A2,c2,rfl⟩:=hr2.rows.form
  have HR2:=hid (hr2.base HB1.out.size)
  have HB2:=hid (HB1.out.trans (hb2.mono HB1.out.size))
  clear hr2 hb2 p0 p1 p2 p3
  go_wp2_with fail
  go_ret2
  exact ⟨HB2.out,.inr ⟨rfl,_,rfl,HR2.out⟩⟩
theorem zEt {B:Nat} {a w:World} (h:Below B a w) (n:Nat):Below B a (w.drewN n):=⟨h.os,h.tape,h.output,h.size,h.block⟩
theorem zQv {B:Nat} {a w:World} (h:Below B a w) (n m:Nat):Below B a ((w.drewN n).drewN m):=⟨h.os,h.tape,h.output,h.size,h.block⟩
def idxS (l:List (List Int)) (p:List Int):Option Nat:=l.findIdx? (fun q=>decide (cmpS q p = 0))
theorem zQe (l:List (List Int)) (p:List Int) {k:Nat} (h:k < l.length) (hn:idxS (l.take k) p = none) (hk:cmpS l[k] p≠0):idxS (l.take (k + 1)) p = none:=by
 unfold idxS at *
 rw [List.findIdx?_eq_none_iff] at *
 intro x hx
 rw [List.take_succ_eq_append_getElem h,List.mem_append] at hx
 rcases hx with hx | hx
 ·exact hn x hx
 ·simp only [List.mem_singleton] at hx;subst hx;simpa using hk
theorem idxS_at (l:List (List Int)) (p:List Int) {k:Nat} (h:k < l.length) (hn:idxS (l.take k) p = none) (hk:cmpS l[k] p = 0):idxS l p = some k:=by
 unfold idxS at *
 rw [List.findIdx?_eq_none_iff] at hn
 rw [List.findIdx?_eq_some_iff_getElem]
 refine ⟨h,by simpa using hk,fun j hj=>?_⟩
 have:=hn (l[j]'(by omega)) (by rw [List.mem_iff_getElem];exact ⟨j,by simp;omega,by simp⟩)
 simpa using this
theorem zIa (t:Tree) (p:List Int):(idxS (allS [] t) p).isSome = zAs t p:=by
 rw [Bool.eq_iff_iff,← zKj]
 unfold idxS
 rw [List.findIdx?_isSome,List.any_eq_true]
 constructor
 ·rintro ⟨q,hq,h⟩
  have:q = p:=(zE8 _ _).1 (by simpa using h)
  rw [← this];exact hq
 ·intro h
  exact ⟨p,h,by simp [zGf]⟩
def IdxRes (w:World) (b:Bool) (L:List (List Int)) (p:List Int) (e:Ending) (w':World):Prop :=
 Below w.heap.size w w'∧((b = false∧e = .returned (.tuple #[.int .i64 0,.int .i64 1]))∨(b = true∧((idxS L p = none∧e = .returned (.tuple #[.int .i64 0,.int .i64 2]))∨∃ i:Nat,i < L.length∧idxS L p = some i∧e = .returned (.tuple #[.int .i64 i,.int .i64 0]))))
theorem zNl (t:Tree) (h:zAe t≤900000):(allS [] t).length≤2000000:=by rw [zHl];have:=zKp t;omega
set_option maxHeartbeats 2000000 in
theorem zJa (t:Tree) (p:List Int) (A:Option Addr) (cap:Nat) (b:Value) (w:World) (hv:zAa zAb w (Lt w.heap.size) t.kids (.slice A t.kids.length cap)) (htx:t.text.size≤maxLen) (hct:zAe t≤900000) (hp:zAh w (Lt w.heap.size) p b) :
  Calls Tryz.prog 62 #[.agg #[.int .i64 t.kind,.string t.text,.int .i64 t.cols,.slice A t.kids.length cap],b] w (IdxRes w (zAf t) (allS [] t) p):=by
 have HB0:Hid (Below w.heap.size w (w.alloc (Obj.cells #[.int .i64 t.kind,.string t.text,.int .i64 t.cols,.slice A t.kids.length cap] 24))):=zAl _ _
 have C1:=hid (zNx t A cap _ (hv.below HB0.out HB0.out.size) htx hct)
 have HP:Hid (∀ W,Below w.heap.size w W→zAh W (Lt W.heap.size) p b):=fun W h=>hp.below h h.size
 have HL:=zNl t hct
 obtain ⟨A',cap',rfl⟩:=hp.form
 generalize allS [] t = L at *
 generalize zAf t = b at *
 obtain ⟨tk,tx,tc,ts⟩:=t
 simp only [Tree.kind,Tree.text,Tree.cols,Tree.kids] at *
 clear hv htx hct hp
 go_enter Tryz.func62,Tryz.ntmps62
 go_wp2_with fail
 refine C1.out.mono ?_
 rintro e w1 ⟨hb1,(⟨rfl,rfl⟩ | ⟨rfl,v,rfl,hr⟩)⟩
 ·have HB1:=hid (HB0.out.trans (hb1.mono HB0.out.size))
  clear hb1
  go_wp2_with fail
  go_ret2
  exact ⟨HB1.out,.inl ⟨rfl,rfl⟩⟩
 ·have HB1:=hid (HB0.out.trans (hb1.mono HB0.out.size))
  obtain ⟨A2,c2,rfl⟩:=hr.rows.form
  have HR:=hid hr.rowsLt
  clear hb1 hr
  go_wp2_with fail
  go_loopw [8] (fun i wr=>(∃ n,wr = w1.drewN n)∧∃ k:Nat,k≤L.length∧i = .int .i64 k∧idxS (L.take k) p = none) (fun i _=>L.length - (intOf i).toNat)
  case atStart=>exact ⟨⟨0,rfl⟩,0,Nat.zero_le _,rfl,by simp [idxS]⟩
  case round =>
   obtain ⟨⟨n,rfl⟩,k,hk,rfl,hno⟩:=hrel
   have HN:=hid hno
   clear hno
   rcases Nat.lt_or_ge k L.length with hlt | hge
   ·obtain ⟨_,_,rs,hq,_,_,hrd,hls⟩:=HR.out
    cases hq
    obtain ⟨g,o,A3,c3,rs3,rfl,hg,q0,h5,h6,h7,h8⟩:=zJ5 hrd hls hlt
    have HC:Hid (Calls Tryz.prog 64 #[.slice A3 L[k].length c3,.slice A' p.length cap'] (w1.drewN n) fun e w'=>e = .returned (.int .i64 (cmpS L[k] p))∧∃ m,w' = (w1.drewN n).drewN m) :=
     zIn L[k] p (w1.drewN n) _ _ (Lt w1.heap.size) (Lt (w1.drewN n).heap.size) (zAa.keep (w:=w1) (E:=intE) ⟨_,_,rs3,rfl,h5,h6,h7,h8⟩ (fun _ _=>rfl) (fun _ h=>h)) (HP.out _ (zEt HB1.out n))
    have HLK:Hid (∃ z,z = L[k]):=⟨_,rfl⟩
    clear hrd hls h7 h8
    by_cases hc:cmpS L[k] p = 0
    ·have HI:=hid (idxS_at L p hlt HN.out hc)
     have d0:(cmpS L[k] p == 0) = true:=by simpa using hc
     rw [hc] at HC
     clear hc d0
     go_wp2_with fail
     refine HC.out.mono ?_
     rintro e w2 ⟨rfl,m,rfl⟩
     go_wp2_with fail
     go_ret2
     refine ⟨by first | exact zEt HB1.out _ | exact zQv HB1.out _ _,.inr ⟨rfl,.inr ⟨k,hlt,HI.out,rfl⟩⟩⟩
    ·have HI:=hid (zQe L p hlt HN.out hc)
     have d0:(cmpS L[k] p == 0) = false:=by simpa using hc
     clear hc
     go_wp2_with fail
     refine HC.out.mono ?_
     rintro e w2 ⟨rfl,m,rfl⟩
     go_wp2_with fail
     go_roundw
     case rel=>exact ⟨by first | exact ⟨_,rfl⟩ | (simp only [World.drewN_drewN];exact ⟨_,rfl⟩),k + 1,by omega,by go_num,HI.out⟩
     case measure=>simp [intOf];omega
   ·have HF:Hid (idxS L p = none):=by have:=HN.out;rwa [List.take_of_length_le hge] at this
    go_wp2_with fail
    go_ret2
    exact ⟨zEt HB1.out _,.inr ⟨rfl,.inl ⟨HF.out,rfl⟩⟩⟩
set_option maxHeartbeats 1000000 in
theorem zI9 (t:Tree) (p:List Int) (A:Option Addr) (cap:Nat) (b:Value) (w:World) (hv:zAa zAb w (Lt w.heap.size) t.kids (.slice A t.kids.length cap)) (htx:t.text.size≤maxLen) (hct:zAe t≤900000) (hp:zAh w (Lt w.heap.size) p b) :
  Calls Tryz.prog 29 #[.agg #[.int .i64 t.kind,.string t.text,.int .i64 t.cols,.slice A t.kids.length cap],b] w fun e w'=>e = .returned (.bool (zAf t && zAs t p))∧Below w.heap.size w w':=by
 have HB0:Hid (Below w.heap.size w (w.alloc (Obj.cells #[.int .i64 t.kind,.string t.text,.int .i64 t.cols,.slice A t.kids.length cap] 24))):=zAl _ _
 have C1:=hid (zJa t p A cap b _ (hv.below HB0.out HB0.out.size) htx hct (hp.below HB0.out HB0.out.size))
 have HS:=hid (zIa t p)
 obtain ⟨A',cap',rfl⟩:=hp.form
 generalize zAs t p = b2 at *
 generalize allS [] t = L at *
 generalize zAf t = b at *
 obtain ⟨tk,tx,tc,ts⟩:=t
 simp only [Tree.kind,Tree.text,Tree.cols,Tree.kids] at *
 clear hv htx hct hp
 go_enter Tryz.func29,Tryz.ntmps29
 go_wp2_with fail
 refine C1.out.mono ?_
 rintro e w1 ⟨hb1,(⟨rfl,rfl⟩ | ⟨rfl,(⟨h1,rfl⟩ | ⟨i,h0,h1,rfl⟩)⟩)⟩
 ·have HB1:=hid (HB0.out.trans (hb1.mono HB0.out.size))
  clear hb1
  go_wp2_with fail
  go_ret
  exact ⟨rfl,HB1.out⟩
 ·have HB1:=hid (HB0.out.trans (hb1.mono HB0.out.size))
  have HF:Hid (b2 = false):=by show _ = _;rw [← HS.out,h1];rfl
  clear hb1 h1
  go_wp2_with fail
  go_ret
  exact ⟨by rw [HF.out];rfl,HB1.out⟩
 ·have HB1:=hid (HB0.out.trans (hb1.mono HB0.out.size))
  have HF:Hid (b2 = true):=by show _ = _;rw [← HS.out,h1];rfl
  clear hb1 h1 h0
  go_wp2_with fail
  go_ret
  exact ⟨by rw [HF.out];rfl,HB1.out⟩
mutual
theorem zH0 : (t : Tree) → (m : Int) → 0 ≤ zF8 t m → zF8 t m = m - zAe t
  | .mk _ _ _ ts, m, h => by
    rw [zF8] at h ⊢
    rw [zAe, zG1 ts (m - 1) h]; omega
theorem zG1 : (ts : List Tree) → (m : Int) → 0 ≤ zC8 ts m → zC8 ts m = m - zAd ts
  | [], m, h => by rw [zC8, zAd]; omega
  | t :: ts, m, h => by
    rw [zC8] at h ⊢
    split at h
    · rename_i h0
      rw [if_pos h0]
      have h1 := zG1 ts (zF8 t m) h
      have h2 := zH0 t m (by omega)
      rw [h1, h2, zAd]; omega
    · rename_i h0; omega
end
theorem zLw {t:Tree} {m:Int} (h:fewS t m = true):(zAe t:Int)≤m:=by
 unfold fewS at h
 have h':0≤zF8 t m:=by simpa using h
 have:=zH0 t m h'
 omega
def betV (b1 b2 b3:Bool) (r:List Int × Int × Int):(List Int × Int × Int) × Int:=if b1 = false then (([],0,0),1) else if (b2 && b3) = false then (([],0,0),2) else (r,0)
def BetV (w:World) (x:(List Int × Int × Int) × Int) (e:Ending) (w':World):Prop :=
 ∃ v,e = .returned (.tuple #[.agg #[v,.int .i64 x.1.2.1,.int .i64 x.1.2.2],.int .i64 x.2])∧zAh w' (fun k=>w.heap.size≤k∧k < w'.heap.size) x.1.1 v∧Below w.heap.size w w'
theorem zG5.v {w w':World} {b1 b2 b3:Bool} {r:List Int × Int × Int} {e:Ending} (h:zG5 w b1 b2 b3 r e w'):BetV w (betV b1 b2 b3 r) e w':=by
 obtain ⟨hb,(⟨rfl,rfl⟩ | ⟨rfl,h2,rfl⟩ | ⟨rfl,rfl,rfl,v,rfl,hi⟩)⟩:=h
 ·exact ⟨_,rfl,zAa.nil_ 0 (by simp) none,hb⟩
 ·unfold betV;rw [if_neg (by simp),if_pos h2];exact ⟨_,rfl,zAa.nil_ 0 (by simp) none,hb⟩
 ·exact ⟨v,rfl,hi,hb⟩
theorem owns_dn {w:World} {b:Nat} {xs:List Int} {v:Value} {n:Nat} (h:Owns w b xs v):Owns (w.drewN n) b xs v:=h
set_option maxHeartbeats 8000000 in
theorem zGy (t:Tree) (a b:List Int) (A:Option Addr) (cap:Nat) (va vb:Value) (w:World) (hv:zAa zAb w (Lt w.heap.size) t.kids (.slice A t.kids.length cap)) (htx:t.text.size≤maxLen) (hct:zAe t≤900000) (ha:zAh w (Lt w.heap.size) a va) (hb:zAh w (Lt w.heap.size) b vb) :
  Calls Tryz.prog 47 #[.agg #[.int .i64 t.kind,.string t.text,.int .i64 t.cols,.slice A t.kids.length cap],va,vb] w (zG5 w (zAf t) (zAs t a) (zAs t b) (btS a b)):=by
 obtain ⟨Aa,ca,rfl⟩:=ha.form
 obtain ⟨Ab,cb,rfl⟩:=hb.form
 have C1:Hid (∀ W,Below w.heap.size w W→Calls Tryz.prog 35 #[.agg #[.int .i64 t.kind,.string t.text,.int .i64 t.cols,.slice A t.kids.length cap]] W fun e w'=>e = .returned (.bool (zAf t))∧Below W.heap.size W w'):=fun W hW=>zDx t A cap W (hv.below hW hW.size) htx (by omega)
 have C2:Hid (∀ W,Below w.heap.size w W→zAf t = true→Calls Tryz.prog 29 #[.agg #[.int .i64 t.kind,.string t.text,.int .i64 t.cols,.slice A t.kids.length cap],.slice Aa a.length ca] W fun e w'=>e = .returned (.bool (zAs t a))∧Below W.heap.size W w'):=fun W hW h=>by
  have:=zI9 t a A cap _ W (hv.below hW hW.size) htx hct (ha.below hW hW.size)
  rwa [h,Bool.true_and] at this
 have C3:Hid (∀ W,Below w.heap.size w W→zAf t = true→Calls Tryz.prog 29 #[.agg #[.int .i64 t.kind,.string t.text,.int .i64 t.cols,.slice A t.kids.length cap],.slice Ab b.length cb] W fun e w'=>e = .returned (.bool (zAs t b))∧Below W.heap.size W w'):=fun W hW h=>by
  have:=zI9 t b A cap _ W (hv.below hW hW.size) htx hct (hb.below hW hW.size)
  rwa [h,Bool.true_and] at this
 have C4:Hid (zAf t = true→zAs t a = true→zAs t b = true→(0 < a.length∧0 < b.length)∧(a.length≤1000000∧b.length≤1000000)∧(∀ x ∈ a,0≤x∧x≤1000000)∧(∀ x ∈ b,0≤x∧x≤1000000)):=fun h1 h2 h3=>by
  have hc:zAe t≤1000:=by unfold zAf at h1;simp only [Bool.and_eq_true,decide_eq_true_eq] at h1;omega
  obtain ⟨x1,x2,x3⟩:=zHf hc h2
  obtain ⟨y1,y2,y3⟩:=zHf hc h3
  exact ⟨⟨x1,y1⟩,⟨x2,y2⟩,x3,y3⟩
 have HA:Hid (∀ W,Below w.heap.size w W→zAh W (Lt W.heap.size) a (.slice Aa a.length ca)):=fun W h=>ha.below h h.size
 have HB:Hid (∀ W,Below w.heap.size w W→zAh W (Lt W.heap.size) b (.slice Ab b.length cb)):=fun W h=>hb.below h h.size
 have HBT:Hid (btS a b = (a.take (comS a b),min (a.getD (comS a b) 0) (b.getD (comS a b) 0),max (extS (a.drop (comS a b))) (extS (b.drop (comS a b))))):=rfl
 generalize btS a b = r at *
 generalize zAs t a = b2 at *
 generalize zAs t b = b3 at *
 generalize zAf t = b1 at *
 obtain ⟨tk,tx,tc,ts⟩:=t
 simp only [Tree.kind,Tree.text,Tree.cols,Tree.kids] at *
 clear hv htx ha hb hct
 generalize hW0:(w.alloc (Obj.cells #[.int .i64 tk,.string tx,.int .i64 tc,.slice A ts.length cap] 24)).alloc (.cells #[.slice none 0 0,.int .i64 0,.int .i64 0] 46) = W0
 have KB:Hid (∀ W,Below W0.heap.size W0 W→(W.cell? ⟨w.heap.size,0,none⟩ = some (.int .i64 tk)∧W.cell? ⟨w.heap.size,1,none⟩ = some (.string tx)∧W.cell? ⟨w.heap.size,2,none⟩ = some (.int .i64 tc)∧W.cell? ⟨w.heap.size,3,none⟩ = some (.slice A ts.length cap)) ∧
   (W.cell? ⟨w.heap.size + 1,0,none⟩ = some (.slice none 0 0)∧W.cell? ⟨w.heap.size + 1,1,none⟩ = some (.int .i64 0)∧W.cell? ⟨w.heap.size + 1,2,none⟩ = some (.int .i64 0)) ∧
   (W.frozen? ⟨w.heap.size + 1,0,none⟩ = false∧W.frozen? ⟨w.heap.size + 1,1,none⟩ = false∧W.frozen? ⟨w.heap.size + 1,2,none⟩ = false)∧Below w.heap.size w W∧w.heap.size + 1 < W.heap.size):=by
  intro W hW
  have hz:W0.heap.size = w.heap.size + 1 + 1:=by rw [← hW0];simp
  have hc:=(bcell hW).1
  have hf:=(bcell hW).2
  have hbb:Below w.heap.size w W0:=by rw [← hW0];exact Below.alloc (zAt _ _) (by simp) _
  refine ⟨⟨(hc _ _ (by omega)).trans ?_,(hc _ _ (by omega)).trans ?_,(hc _ _ (by omega)).trans ?_,(hc _ _ (by omega)).trans ?_⟩,⟨(hc _ _ (by omega)).trans ?_,(hc _ _ (by omega)).trans ?_,(hc _ _ (by omega)).trans ?_⟩,⟨(hf _ _ (by omega)).trans ?_,(hf _ _ (by omega)).trans ?_,(hf _ _ (by omega)).trans ?_⟩,hbb.trans (hW.mono hbb.size),by have:=hW.size;omega⟩
  all_goals (rw [← hW0];first | exact zD1 _ _ _ _ _ _ rfl | exact na_c _ _ _ _ _ (by simp) | exact na_f _ _ _ _ _ (by simp))
 rcases b1 with _ | _
 ·clear C2 C3 C4
  obtain ⟨⟨m0,m1,m2,m3⟩,⟨c0,c1,c2⟩,⟨f0,f1,f2⟩,hbw0,hz0⟩:=KB.out W0 (Below.refl _ _)
  have HBW0:=hid hbw0
  clear hbw0
  go_enter Tryz.func47,Tryz.ntmps47
  go_wp2_with fail
  refine (C1.out _ HBW0.out).mono ?_
  rintro e w1 ⟨rfl,hb1⟩
  clear m0 m1 m2 m3 c0 c1 c2 f0 f1 f2 hz0
  obtain ⟨⟨m0,m1,m2,m3⟩,hr1,⟨f0,f1,f2⟩,hbw1,hz1⟩:=KB.out w1 hb1
  have HBL1:=hid hb1
  have HBW1:=hid hbw1
  obtain ⟨c0,c1,c2⟩:=hr1
  have HR1:=hid (And.intro c0 (And.intro c1 c2))
  clear hb1 hbw1
  go_wp2_with fail
  generalize hW:((w1.setCell _ (.slice none 0 0)).setCell _ (.int .i64 0)).setCell _ (.int .i64 0) = W
  obtain ⟨⟨r0,r1,r2⟩,rz,rb,ro⟩:=three HR1.out.1 HR1.out.2.1 HR1.out.2.2 _ _ _ hW.symm
  have HB':=hid (rb w.heap.size w (by omega) HBW1.out)
  have _u:=trivial
  clear hW ro rb
  refine bodyPost_ret (v:=.tuple #[.agg #[(.slice none 0 0),(.int .i64 0),(.int .i64 0)],.int .i64 1]) (by simp [results,Tryz.results47,go_sem,r0,r1,r2]) rfl ?_
  exact ⟨HB'.out,.inl ⟨rfl,rfl⟩⟩
 rcases b2 with _ | _
 ·clear C3 C4
  obtain ⟨⟨m0,m1,m2,m3⟩,⟨c0,c1,c2⟩,⟨f0,f1,f2⟩,hbw0,hz0⟩:=KB.out W0 (Below.refl _ _)
  have HBW0:=hid hbw0
  clear hbw0
  go_enter Tryz.func47,Tryz.ntmps47
  go_wp2_with fail
  refine (C1.out _ HBW0.out).mono ?_
  rintro e w1 ⟨rfl,hb1⟩
  clear m0 m1 m2 m3 c0 c1 c2 f0 f1 f2 hz0
  obtain ⟨⟨m0,m1,m2,m3⟩,hr1,⟨f0,f1,f2⟩,hbw1,hz1⟩:=KB.out w1 hb1
  have HBL1:=hid hb1
  have HBW1:=hid hbw1
  obtain ⟨c0,c1,c2⟩:=hr1
  have HR1:=hid (And.intro c0 (And.intro c1 c2))
  clear hb1 hbw1
  go_wp2_with fail
  refine (C2.out _ HBW1.out (by first | rfl | trivial)).mono ?_
  rintro e w2 ⟨rfl,hb2⟩
  clear m0 m1 m2 m3 f0 f1 f2 c0 c1 c2
  have HBL2:=hid (HBL1.out.trans (hb2.mono HBL1.out.size))
  obtain ⟨⟨m0,m1,m2,m3⟩,hr2,⟨f0,f1,f2⟩,hbw2,hz2⟩:=KB.out w2 HBL2.out
  have HBW2:=hid hbw2
  obtain ⟨c0,c1,c2⟩:=hr2
  have HR2:=hid (And.intro c0 (And.intro c1 c2))
  clear hb2 hbw2
  go_wp2_with fail
  generalize hW:((w2.setCell _ (.slice none 0 0)).setCell _ (.int .i64 0)).setCell _ (.int .i64 0) = W
  obtain ⟨⟨r0,r1,r2⟩,rz,rb,ro⟩:=three HR2.out.1 HR2.out.2.1 HR2.out.2.2 _ _ _ hW.symm
  have HB':=hid (rb w.heap.size w (by omega) HBW2.out)
  have _u:=trivial
  clear hW ro rb
  refine bodyPost_ret (v:=.tuple #[.agg #[(.slice none 0 0),(.int .i64 0),(.int .i64 0)],.int .i64 2]) (by simp [results,Tryz.results47,go_sem,r0,r1,r2]) rfl ?_
  exact ⟨HB'.out,.inr (.inl ⟨rfl,rfl,rfl⟩)⟩
 rcases b3 with _ | _
 ·clear C4
  obtain ⟨⟨m0,m1,m2,m3⟩,⟨c0,c1,c2⟩,⟨f0,f1,f2⟩,hbw0,hz0⟩:=KB.out W0 (Below.refl _ _)
  have HBW0:=hid hbw0
  clear hbw0
  go_enter Tryz.func47,Tryz.ntmps47
  go_wp2_with fail
  refine (C1.out _ HBW0.out).mono ?_
  rintro e w1 ⟨rfl,hb1⟩
  clear m0 m1 m2 m3 c0 c1 c2 f0 f1 f2 hz0
  obtain ⟨⟨m0,m1,m2,m3⟩,hr1,⟨f0,f1,f2⟩,hbw1,hz1⟩:=KB.out w1 hb1
  have HBL1:=hid hb1
  have HBW1:=hid hbw1
  obtain ⟨c0,c1,c2⟩:=hr1
  have HR1:=hid (And.intro c0 (And.intro c1 c2))
  clear hb1 hbw1
  go_wp2_with fail
  refine (C2.out _ HBW1.out (by first | rfl | trivial)).mono ?_
  rintro e w2 ⟨rfl,hb2⟩
  clear m0 m1 m2 m3 f0 f1 f2 c0 c1 c2
  have HBL2:=hid (HBL1.out.trans (hb2.mono HBL1.out.size))
  obtain ⟨⟨m0,m1,m2,m3⟩,hr2,⟨f0,f1,f2⟩,hbw2,hz2⟩:=KB.out w2 HBL2.out
  have HBW2:=hid hbw2
  obtain ⟨c0,c1,c2⟩:=hr2
  have HR2:=hid (And.intro c0 (And.intro c1 c2))
  clear hb2 hbw2
  go_wp2_with fail
  refine (C3.out _ HBW2.out (by first | rfl | trivial)).mono ?_
  rintro e w3 ⟨rfl,hb3⟩
  clear m0 m1 m2 m3 f0 f1 f2 c0 c1 c2
  have HBL3:=hid (HBL2.out.trans (hb3.mono HBL2.out.size))
  obtain ⟨⟨m0,m1,m2,m3⟩,hr3,⟨f0,f1,f2⟩,hbw3,hz3⟩:=KB.out w3 HBL3.out
  have HBW3:=hid hbw3
  obtain ⟨c0,c1,c2⟩:=hr3
  have HR3:=hid (And.intro c0 (And.intro c1 c2))
  clear hb3 hbw3
  go_wp2_with fail
  generalize hW:((w3.setCell _ (.slice none 0 0)).setCell _ (.int .i64 0)).setCell _ (.int .i64 0) = W
  obtain ⟨⟨r0,r1,r2⟩,rz,rb,ro⟩:=three HR3.out.1 HR3.out.2.1 HR3.out.2.2 _ _ _ hW.symm
  have HB':=hid (rb w.heap.size w (by omega) HBW3.out)
  have _u:=trivial
  clear hW ro rb
  refine bodyPost_ret (v:=.tuple #[.agg #[(.slice none 0 0),(.int .i64 0),(.int .i64 0)],.int .i64 2]) (by simp [results,Tryz.results47,go_sem,r0,r1,r2]) rfl ?_
  exact ⟨HB'.out,.inr (.inl ⟨rfl,rfl,rfl⟩)⟩
 ·skip
  obtain ⟨⟨m0,m1,m2,m3⟩,⟨c0,c1,c2⟩,⟨f0,f1,f2⟩,hbw0,hz0⟩:=KB.out W0 (Below.refl _ _)
  have HBW0:=hid hbw0
  clear hbw0
  go_enter Tryz.func47,Tryz.ntmps47
  go_wp2_with fail
  refine (C1.out _ HBW0.out).mono ?_
  rintro e w1 ⟨rfl,hb1⟩
  clear m0 m1 m2 m3 c0 c1 c2 f0 f1 f2 hz0
  obtain ⟨⟨m0,m1,m2,m3⟩,hr1,⟨f0,f1,f2⟩,hbw1,hz1⟩:=KB.out w1 hb1
  have HBL1:=hid hb1
  have HBW1:=hid hbw1
  obtain ⟨c0,c1,c2⟩:=hr1
  have HR1:=hid (And.intro c0 (And.intro c1 c2))
  clear hb1 hbw1
  go_wp2_with fail
  refine (C2.out _ HBW1.out (by first | rfl | trivial)).mono ?_
  rintro e w2 ⟨rfl,hb2⟩
  clear m0 m1 m2 m3 f0 f1 f2 c0 c1 c2
  have HBL2:=hid (HBL1.out.trans (hb2.mono HBL1.out.size))
  obtain ⟨⟨m0,m1,m2,m3⟩,hr2,⟨f0,f1,f2⟩,hbw2,hz2⟩:=KB.out w2 HBL2.out
  have HBW2:=hid hbw2
  obtain ⟨c0,c1,c2⟩:=hr2
  have HR2:=hid (And.intro c0 (And.intro c1 c2))
  clear hb2 hbw2
  go_wp2_with fail
  refine (C3.out _ HBW2.out (by first | rfl | trivial)).mono ?_
  rintro e w3 ⟨rfl,hb3⟩
  clear m0 m1 m2 m3 f0 f1 f2 c0 c1 c2
  have HBL3:=hid (HBL2.out.trans (hb3.mono HBL2.out.size))
  obtain ⟨⟨m0,m1,m2,m3⟩,hr3,⟨f0,f1,f2⟩,hbw3,hz3⟩:=KB.out w3 HBL3.out
  have HBW3:=hid hbw3
  obtain ⟨c0,c1,c2⟩:=hr3
  have HR3:=hid (And.intro c0 (And.intro c1 c2))
  clear hb3 hbw3
  obtain ⟨⟨h0,h1⟩,⟨hl1,hl2⟩,hxa,hxb⟩:=C4.out (by first | rfl | trivial) (by first | rfl | trivial) (by first | rfl | trivial)
  have HXA:=hid hxa
  have HXB:=hid hxb
  obtain ⟨hk1,hk2⟩:=zNe a b h0 h1
  have HA3:=hid (HA.out w3 HBW3.out)
  have HB3:=hid (HB.out w3 HBW3.out)
  clear hxa hxb C1 C2 C3 C4 HA HB
  go_wp2_with fail
  go_loopw [8] (fun i wr=>(∃ n,wr = w3.drewN n)∧∃ k:Nat,k < a.length∧k < b.length∧i = .int .i64 k∧comS (a.drop k) (b.drop k) + k = comS a b) (fun i _=>a.length - (intOf i).toNat)
  case atStart=>exact ⟨⟨0,rfl⟩,0,h0,h1,rfl,rfl⟩
  case round =>
   obtain ⟨⟨n,rfl⟩,k,hk1,hk2,rfl,hrest⟩:=hrel
   have HR:=hid hrest
   obtain ⟨ga,oa,rfl,hga,HCA,hca,_⟩:=zKn HA3.out hk1
   obtain ⟨gb,ob,rfl,hgb,HCB,hcb,_⟩:=zKn HB3.out hk2
   have qa:=HCA w3 (Below.refl _ _) k hk1
   have qb:=HCB w3 (Below.refl _ _) k hk2
   have HPA:Hid (∀ h:k + 1 < a.length,w3.cell? ⟨ga,oa + (k + 1),none⟩ = some (.int .i64 a[k + 1])):=fun h=>HCA w3 (Below.refl _ _) (k + 1) h
   have HPB:Hid (∀ h:k + 1 < b.length,w3.cell? ⟨gb,ob + (k + 1),none⟩ = some (.int .i64 b[k + 1])):=fun h=>HCB w3 (Below.refl _ _) (k + 1) h
   have ia:(k:Int) < (a.length:Int):=by omega
   have ib:(k:Int) < (b.length:Int):=by omega
   have wd:IntKind.i64.wrap ((k:Int) + 2) = (k:Int) + 2:=IntWalk.i64_in _ (by omega)
   have we:IntKind.i64.wrap ((k:Int) + 1) = (k:Int) + 1:=IntWalk.i64_in _ (by omega)
   have wn:((k:Int) + 1).toNat = k + 1:=by omega
   have wp:(0:Int)≤(k:Int) + 1:=by omega
   clear hrest HCA HCB
   by_cases hgo:(k + 2 < a.length∧k + 2 < b.length)∧∀ (p:k + 1 < a.length) (q:k + 1 < b.length),a[k] = b[k]∧a[k + 1] = b[k + 1]
   ·obtain ⟨⟨l1,l2⟩,hq'⟩:=hgo
    have hq:=hq' (by omega) (by omega)
    have p1:=HPA.out (Nat.lt_of_succ_lt l1)
    have p2:=HPB.out (Nat.lt_of_succ_lt l2)
    have i1:(k:Int) + 2 < (a.length:Int):=by omega
    have i2:(k:Int) + 2 < (b.length:Int):=by omega
    have i3:(k:Int) + 1 < (a.length:Int):=by omega
    have i4:(k:Int) + 1 < (b.length:Int):=by omega
    have d1:decide ((k:Int) + 2 < (a.length:Int)) = true:=decide_eq_true i1
    have d2:decide ((k:Int) + 2 < (b.length:Int)) = true:=decide_eq_true i2
    have HN:Hid (comS (a.drop (k + 2)) (b.drop (k + 2)) + (k + 2) = comS a b):=by show _ = _;rw [← HR.out,zL6 l1 l2 hq.1 hq.2];omega
    have e1:(a[k] == b[k]) = true:=by simpa using hq.1
    have e2:(a[k + 1]'(Nat.lt_of_succ_lt l1) == b[k + 1]'(Nat.lt_of_succ_lt l2)) = true:=by simpa using hq.2
    clear hq hq'
    go_wp2_with fail
    go_quiet (fail)
    clear wd we
    go_wp2_with fail
    go_roundw
    case rel=>exact ⟨by first | exact ⟨_,rfl⟩ | (simp only [World.drewN_drewN];exact ⟨_,rfl⟩),k + 2,by omega,by omega,by go_num,HN.out⟩
    case measure=>simp [intOf];omega
   ·have HST:Hid (comS a b = k):=by
     show _ = _
     rw [← HR.out]
     by_cases hlong:k + 2 < a.length∧k + 2 < b.length
     ·rw [zL7 hlong.1 hlong.2 (fun h=>hgo ⟨hlong,fun _ _=>h⟩)];omega
     ·rw [zL5 hlong];omega
    go_upto_region 6 with fail
    go_cut [63] (fun s wx=>s = .bool false∧∃ n,wx = w3.drewN n)
    case first =>
     by_cases hlong:k + 2 < a.length∧k + 2 < b.length
     ·obtain ⟨l1,l2⟩:=hlong
      have p1:=HPA.out (Nat.lt_of_succ_lt l1)
      have p2:=HPB.out (Nat.lt_of_succ_lt l2)
      have i1:(k:Int) + 2 < (a.length:Int):=by omega
      have i2:(k:Int) + 2 < (b.length:Int):=by omega
      have i3:(k:Int) + 1 < (a.length:Int):=by omega
      have i4:(k:Int) + 1 < (b.length:Int):=by omega
      have d1:decide ((k:Int) + 2 < (a.length:Int)) = true:=decide_eq_true i1
      have d2:decide ((k:Int) + 2 < (b.length:Int)) = true:=decide_eq_true i2
      by_cases hq:a[k] = b[k]
      ·have e1:(a[k] == b[k]) = true:=by simpa using hq
       have e2:(a[k + 1]'(Nat.lt_of_succ_lt l1) == b[k + 1]'(Nat.lt_of_succ_lt l2)) = false:=by rw [beq_eq_false_iff_ne];exact fun h=>hgo ⟨⟨l1,l2⟩,fun _ _=>⟨hq,h⟩⟩
       clear hq hgo
       go_quiet (fail)
       clear wd we
       go_wp2_with fail
       go_meet
       exact ⟨rfl,by first | exact ⟨_,rfl⟩ | (simp only [World.drewN_drewN];exact ⟨_,rfl⟩)⟩
      ·have e1:(a[k] == b[k]) = false:=by simpa using hq
       clear hq hgo
       go_quiet (fail)
       clear wd we
       go_wp2_with fail
       go_meet
       exact ⟨rfl,by first | exact ⟨_,rfl⟩ | (simp only [World.drewN_drewN];exact ⟨_,rfl⟩)⟩
     ·have e12:¬ ((k:Int) + 2 < (a.length:Int))∨((k:Int) + 2 < (a.length:Int)∧¬ ((k:Int) + 2 < (b.length:Int))):=by omega
      clear hgo hlong
      rcases e12 with e1 | ⟨e1,e2⟩
      ·have d1:decide ((k:Int) + 2 < (a.length:Int)) = false:=decide_eq_false e1
       go_quiet (fail)
       go_wp2_with fail
       go_meet
       exact ⟨rfl,by first | exact ⟨_,rfl⟩ | (simp only [World.drewN_drewN];exact ⟨_,rfl⟩)⟩
      ·have d1:decide ((k:Int) + 2 < (a.length:Int)) = true:=decide_eq_true e1
       have d2:decide ((k:Int) + 2 < (b.length:Int)) = false:=decide_eq_false e2
       go_quiet (fail)
       go_wp2_with fail
       go_meet
       exact ⟨rfl,by first | exact ⟨_,rfl⟩ | (simp only [World.drewN_drewN];exact ⟨_,rfl⟩)⟩
    case rest =>
     obtain ⟨rfl,m,rfl⟩:=hcut
     have HE1:Hid (∀ q,Calls Tryz.prog 82 #[.slice (some ⟨ga,oa,none⟩) a.length ca,.int .i64 k] (w3.drewN q) fun e w'=>e = .returned (.tuple #[.int .i64 a[k],.int .i64 (extS (a.drop k))])∧∃ n,w' = (w3.drewN q).drewN n) :=
      fun q=>ends_q a k _ (w3.drewN q) (Lt w3.heap.size) (HA3.out.keep (fun _ _=>rfl) (fun _ h=>h)) hk1 hl1 (HXA.out _ (List.getElem_mem hk1))
     have HE2:Hid (∀ q,Calls Tryz.prog 82 #[.slice (some ⟨gb,ob,none⟩) b.length cb,.int .i64 k] (w3.drewN q) fun e w'=>e = .returned (.tuple #[.int .i64 b[k],.int .i64 (extS (b.drop k))])∧∃ n,w' = (w3.drewN q).drewN n) :=
      fun q=>ends_q b k _ (w3.drewN q) (Lt w3.heap.size) (HB3.out.keep (fun _ _=>rfl) (fun _ h=>h)) hk2 hl2 (HXB.out _ (List.getElem_mem hk2))
     obtain ⟨A3,hsl,hcut⟩:=zL3 intE Tryz.underlying31 zCm (some ⟨ga,oa,none⟩) a.length ca (k:Int) k rfl (by omega) hca
     have HTK:Hid (∀ q,zAh ((w3.alloc (.cells #[] 3)).drewN q) (Lt ((w3.alloc (.cells #[] 3)).drewN q).heap.size) (a.take k) (.slice A3 k ca)):=fun q=>hcut _ _ _ (HA3.out.below (bl_dn (zCb (Below.refl _ _) _)) (by simp))
     have HLK:Hid ((a.take k).length = k):=by show _ = _;simp;omega
     have HGA:Hid (a.getD k 0 = a[k]):=by show _ = _;rw [List.getD_eq_getElem?_getD,List.getElem?_eq_getElem hk1];rfl
     have HGB:Hid (b.getD k 0 = b[k]):=by show _ = _;rw [List.getD_eq_getElem?_getD,List.getElem?_eq_getElem hk2];rfl
     have HFIN:Hid (r = (a.take k,min a[k] b[k],max (extS (a.drop k)) (extS (b.drop k)))):=by show _ = _;rw [HBT.out,HST.out,HGA.out,HGB.out]
     have hkl:k≤1000000:=by omega
     have hkk:(k:Int)≤(ca:Int):=by omega
     clear hcut hgo wd we wn wp qa qb HPA HPB HA3 HB3 HXA HXB HGA HGB HST HR HBT
     generalize a[k] = xa at *
     generalize b[k] = xb at *
     generalize extS (a.drop k) = ea at *
     generalize extS (b.drop k) = eb at *
     go_wp2_with fail
     refine (HE1.out _).mono ?_
     rintro e w4 ⟨rfl,n4,rfl⟩
     simp only [World.drewN_drewN]
     go_wp2_with fail
     refine (HE2.out _).mono ?_
     rintro e w5 ⟨rfl,n5,rfl⟩
     simp only [World.drewN_drewN]
     go_wp2_with (at_builtin;refine zEg rfl (.tmp 78) (.tmp 81) rfl w3.heap.size _ [] (a.take k) rfl (owns_dn (zCk w3)) _ _ _ _ rfl (HTK.out _) (by simp;omega) (by simp) ?_;intro v6 w6 hown6 hb6 _;simp only [List.nil_append] at hown6;obtain ⟨A6,c6,hv6⟩:=(hown6.ints (S:=fun _=>True) (fun _ _ _=>trivial)).form;rw [HLK.out] at hv6;subst hv6;have HO6:=hid hown6;have HB6:=hid ((bl_dn (zCb (Below.refl w3.heap.size w3) _)).trans hb6);obtain ⟨_,hr6,⟨f0',f1',f2'⟩,hbw6,hz6⟩:=KB.out w6 (HBL3.out.trans (HB6.out.mono HBL3.out.size));have HBW6:=hid hbw6;obtain ⟨c0',c1',c2'⟩:=hr6;have HR6:=hid (And.intro c0' (And.intro c1' c2'));clear hown6 hb6 hbw6)
     generalize hW:((w6.setCell _ (.slice A6 k c6)).setCell _ (.int .i64 (min xa xb))).setCell _ (.int .i64 (max ea eb)) = W
     obtain ⟨⟨r0,r1,r2⟩,rz,rb,ro⟩:=three HR6.out.1 HR6.out.2.1 HR6.out.2.2 _ _ _ hW.symm
     have HB':=hid (rb w.heap.size w (by omega) HBW6.out)
     have HI':Hid (zAh W (fun k=>w.heap.size≤k∧k < W.heap.size) (a.take k) (.slice A6 k c6)):=(HO6.out.ints (S:=fun j=>w3.heap.size≤j∧j < w6.heap.size) (fun j h1 h2=>⟨h1,h2⟩)).keep (fun p hp=>ro p (by have:=hp.1;omega)) (fun j hj=>by have:=hj.1;have:=hj.2;have:=HBW3.out.size;exact ⟨by omega,by omega⟩)
     clear hW ro rb
     refine bodyPost_ret (v:=.tuple #[.agg #[.slice A6 k c6,.int .i64 (min xa xb),.int .i64 (max ea eb)],.int .i64 0]) (by simp [results,Tryz.results47,go_sem,r0,r1,r2]) rfl ?_
     exact ⟨HB'.out,.inr (.inr ⟨rfl,rfl,rfl,.slice A6 k c6,by rw [HFIN.out],by rw [HFIN.out];exact HI'.out⟩)⟩
def chkR (b1 b2:Bool):Int:=if b1 then (if b2 then 0 else 2) else 1
set_option maxHeartbeats 1000000 in
theorem zL9 (t:Tree) (p:List Int) (A:Option Addr) (cap:Nat) (b:Value) (w:World) (hv:zAa zAb w (Lt w.heap.size) t.kids (.slice A t.kids.length cap)) (htx:t.text.size≤maxLen) (hp:zAh w (Lt w.heap.size) p b) :
  Calls Tryz.prog 108 #[.agg #[.int .i64 t.kind,.string t.text,.int .i64 t.cols,.slice A t.kids.length cap],b] w fun e w'=>e = .returned (.int .i64 (chkR (zAf t) (zAs t p)))∧Below w.heap.size w w':=by
 have hb0:Below w.heap.size w (w.alloc (Obj.cells #[.int .i64 t.kind,.string t.text,.int .i64 t.cols,.slice A t.kids.length cap] 24)):=zAt _ _
 have HB0:=hid hb0
 have C1:Hid (∀ W,Below w.heap.size w W→Calls Tryz.prog 49 #[.agg #[.int .i64 t.kind,.string t.text,.int .i64 t.cols,.slice A t.kids.length cap]] W fun e w'=>e = .returned (.bool (zAf t))∧Below W.heap.size W w'):=fun W hW=>zCc t A cap W (hv.below hW hW.size) htx
 have C2:Hid (∀ W,Below w.heap.size w W→Calls Tryz.prog 155 #[.agg #[.int .i64 t.kind,.string t.text,.int .i64 t.cols,.slice A t.kids.length cap],b] W fun e w'=>e = .returned (.bool (zAs t p))∧Below W.heap.size W w'):=fun W hW=>in_any t p A cap b W (hv.below hW hW.size) htx (hp.below hW hW.size)
 have KB:Hid (∀ W,Below (w.alloc (Obj.cells #[.int .i64 t.kind,.string t.text,.int .i64 t.cols,.slice A t.kids.length cap] 24)).heap.size (w.alloc (Obj.cells #[.int .i64 t.kind,.string t.text,.int .i64 t.cols,.slice A t.kids.length cap] 24)) W→NBox W w.heap.size t.kind t.cols t.text (.slice A t.kids.length cap)) :=
  fun W hW=>(NBox.new w t.kind t.cols t.text _).below hW (by simp)
 obtain ⟨A',cap',rfl⟩:=hp.form
 generalize zAs t p = b2 at *
 generalize zAf t = b1 at *
 obtain ⟨tk,tx,tc,ts⟩:=t
 simp only [Tree.kind,Tree.text,Tree.cols,Tree.kids] at *
 clear hv htx hp hb0
 cases b1
 ·go_enter Tryz.func108,Tryz.ntmps108
  go_wp2_with fail
  refine (C1.out _ HB0.out).mono ?_
  rintro e w1 ⟨rfl,hb1⟩
  have HB1:=hid (HB0.out.trans (hb1.mono HB0.out.size))
  clear hb1
  go_wp2_with fail
  go_ret
  exact ⟨rfl,HB1.out⟩
 ·go_enter Tryz.func108,Tryz.ntmps108
  go_wp2_with fail
  refine (C1.out _ HB0.out).mono ?_
  rintro e w1 ⟨rfl,hb1⟩
  have HB1:=hid (HB0.out.trans (hb1.mono HB0.out.size))
  obtain ⟨p0,p1,p2,p3⟩:=KB.out w1 hb1
  clear hb1
  go_wp2_with fail
  refine (C2.out _ HB1.out).mono ?_
  rintro e w2 ⟨rfl,hb2⟩
  have HB2:=hid (HB1.out.trans (hb2.mono HB1.out.size))
  clear hb2 p0 p1 p2 p3
  cases b2
  all_goals
   go_wp2_with fail
   go_ret
   exact ⟨rfl,HB2.out⟩
def zIt (w:World) (r:List Int × Int) (e:Ending) (w':World):Prop :=
 Below w.heap.size w w'∧∃ v,e = .returned (.tuple #[v,.int .i64 r.2])∧zAh w' (fun k=>w.heap.size≤k∧k < w'.heap.size) r.1 v
end Go.Proofs.YtbjcioknfjofkaaGreat
namespace Go.Proofs.YtbjcioknfjofkaaGreat
open Go Go.RowKit Go.Shelf
attribute [local go_sem] Oper.semAt_some
theorem zH7 {w w':World} {S S':Nat→Prop} {xs:List Int} {v:Value} (h:zAh w S xs v) (hk:∀ a u,w.cell? a = some u→w'.cell? a = some u) (hS:∀ k,S k→S' k):zAh w' S' xs v:=by
 obtain ⟨A,cap,cs,rfl,h1,h2,h3,h4⟩:=h
 refine ⟨A,cap,cs,rfl,h1,h2,fun hn=>?_,zB3.2 (zB3.1 h4)⟩
 obtain ⟨g,o,e,hb,hc⟩:=h3 hn
 exact ⟨g,o,e,hS _ hb,fun j u hu=>hk _ _ (hc j u hu)⟩
theorem zMr (n1:Nat) (x:PosV) (W:World) (l:Nat) (o o':Obj) (h:W.heap[l]? = some o) (ho:o.isCells = false) (hx:PRd n1 x W):PRd n1 x (W.putObj l o') :=
 zH7 hx (fun a u hu=>cell_kept hu (grownBy_putObj' W l o') (fun r e=>by cases e;exact ⟨o,h,ho⟩)) (fun k hk=>⟨hk.1,by simpa using hk.2⟩)
theorem prdV_own (V:World→Nat→Prop) (n1:Nat) (x:PosV) (W:World) (l:Nat) (o o':Obj) (hb:But V W (W.putObj l o')) (h:W.heap[l]? = some o) (ho:o.isCells = false) (hx:PRdV V n1 x W):PRdV V n1 x (W.putObj l o') :=
 zH7 hx (fun a u hu=>cell_kept hu (grownBy_putObj' W l o') (fun r e=>by cases e;exact ⟨o,h,ho⟩)) (fun k hk=>⟨hk.1,by simpa using hk.2.1,fun e=>hk.2.2 (hb.less k hk.2.1 e)⟩)
theorem zF1 {n1:Nat} {xl:List Int} {xv:Value} {W:World} (h:PRd n1 (xl,xv) W):∃ A c,xv = .slice A xl.length c∧zAh W (fun k=>n1≤k∧k < W.heap.size) xl (.slice A xl.length c):=by
 obtain ⟨A,c,e⟩:=zAa.form h
 dsimp only at e
 subst e
 exact ⟨A,c,rfl,h⟩
theorem zMt {β:Type} (B:Nat) (a:Addr) (f:β→Value):OwnFrom B (fun (pre:β) W=>W.cell? a = some (f pre)∧W.frozen? a = false) :=
 Own.from (fun s A C row hs hg hr=>⟨cell_kept hs.1 hg hr,(frozen_kept hs.1 hg hr).trans hs.2⟩) B
theorem zN0 {β:Type} (B:Nat) (a:Addr) (f:β→Value):OwnFrom B (fun (pre:β) W=>W.cell? a = some (f pre)) :=
 Own.from (I:=fun (pre:β) W=>W.cell? a = some (f pre)) (fun s A C row hs hg hr=>cell_kept hs hg hr) B
theorem zKq {W:World} {a:Addr} {v:Value} (h:W.cell? a = some v) (o:Obj):(W.alloc o).cell? a = some v:=cell_kept h (World.grownBy_alloc W o none) (fun r e=>by cases e)
theorem zIb {W:World} {a:Addr} {v:Value} (h:W.cell? a = some v∧W.frozen? a = false) (o:Obj):(W.alloc o).cell? a = some v∧(W.alloc o).frozen? a = false :=
 ⟨zKq h.1 o,(frozen_kept h.1 (World.grownBy_alloc W o none) (fun r e=>by cases e)).trans h.2⟩
theorem zHk {W:World} {a:Addr} {v:Value} {D:Nat} {o:Obj} (h:W.cell? a = some v) (o':Obj) (hD:W.heap[D]? = some o) (ho:o.isCells = false):(W.putObj D o').cell? a = some v :=
 cell_kept h (grownBy_putObj' W D o') (fun r e=>by cases e;exact ⟨o,hD,ho⟩)
theorem zEf {W:World} {q a:Addr} (v:Value) (_:True) (h:q.block≠a.block):(W.setCell a v).cell? q = W.cell? q:=World.cell?_of_block (Below.heap_setCell W a v q.block h)
theorem zKf {β:Type} (B n1:Nat) (f:β→List Int) (g:β→Value):OwnFrom B (fun (pre:β) W=>zAh W (fun k=>n1≤k∧k < W.heap.size) (f pre) (g pre)) :=
 Own.from (I:=fun (pre:β) W=>zAh W (fun k=>n1≤k∧k < W.heap.size) (f pre) (g pre)) (fun s A C row hs hg hr=>zH7 hs (fun a u hu=>cell_kept hu hg hr) (fun k hk=>⟨hk.1,Nat.lt_of_lt_of_le hk.2 hg.size⟩)) B
theorem zNz {β:Type} (B:Nat) (p:β→Prop):OwnFrom B (fun (pre:β) _=>p pre):=fun _ _ _ _ hs _ _=>hs
def VP (n0 n2 N:Nat) (k:Nat):Prop:=(n0≤k∧k < n2)∨(N≤k∧k < N + 2)
set_option maxHeartbeats 1000000 in
theorem zMs (V:World→Nat→Prop) (t:Tree) (n0 Bn:Nat) (A:Option Addr) (cap:Nat) (w:World) (hn:n0≤Bn) (hBn:Bn < w.heap.size) (hc:w.cell? ⟨Bn,3,none⟩ = some (.slice A t.kids.length cap))
  (hV:∀ W k,Below w.heap.size w W→V W k→n0≤k∧k≠Bn)
  (hv:zAa zAb w (Lt n0) t.kids (.slice A t.kids.length cap)) (hcnt:zAe t≤400000) :
  SeqRd Tryz.prog 156 #[.pointer (some ⟨Bn,0,none⟩)] (fun x:PosV=>x.2) (PRdV V (w.heap.size + 2)) (But V) (Gdv V) (fun xs=>xs.map Prod.fst = allS [] t) (fun pre=>pre.map Prod.fst <+: allS [] t) w:=by
 intro l J Jx W hW hsz hJ hJx hGd hY h0
 have HV:=zPd l (w.heap.size + 2) V (allS [] t) J Jx hGd hJ hJx hY t [] Bn 0 A none cap 0 [] [] W (by rw [Nat.zero_add];exact (hW.cell (p:=⟨Bn,3,none⟩) hBn).trans hc)
  ⟨by have:=hW.size;omega,fun e=>(hV W Bn hW e).2 rfl⟩ ((hv.below (hW.mono (by omega)) (Nat.le_refl _)).wide fun k hk=>⟨by have:=hW.size;unfold Lt at hk;omega,fun e=>by have:=(hV W k hW e).1;unfold Lt at hk;omega⟩) (zAa.nil_ 0 (by simp [maxLen]) none) (by simp;omega) hsz h0 (by simp)
 simp only [List.length_nil] at HV
 have HH:Hid (CallsIn Fence.wide 0 Tryz.prog 157 #[.pointer (some ⟨Bn,0,none⟩),.slice none 0 0,.func (.yield l) #[] #[]] W (zFg (allS [] t) (allS [] t) V J Jx [] W)):=HV
 clear HV hY h0 hW hc hv hV hGd
 refine callsIn_of_wp Tryz.func156 rfl trivial ?_ rfl
 simp only [Tryz.ntmps156,List.size_toArray,List.length_cons,List.length_nil,Nat.reduceAdd,Nat.reduceSub,Array.replicate_succ,Array.replicate_zero,List.push_toArray,List.append_toArray,List.nil_append,List.cons_append]
 gi_wp2_with (refine ⟨trivial,rfl,?_⟩;gi_at_call 157;refine HH.out.mono ?_;rintro e W1 (⟨rfl,xs,hx,hj,_⟩ | ⟨rfl,q,hq,hj⟩))
 ·go_end0
  exact ⟨⟨_,rfl⟩,.inl ⟨xs,hx,by simpa using hj⟩⟩
 ·go_end0
  exact ⟨⟨_,rfl⟩,.inr ⟨q,by simpa using hq,by simpa using hj⟩⟩
theorem zJe (vs:Array Value) (h4:∃ a b c d,vs = #[a,b,c,d]) (w:World) (n:Nat) :
  CallsIn Fence.wide n Tryz.prog 109 #[.agg vs] w fun e w'=>e = .returned (.func (.func 156) #[] #[.pointer (some ⟨w.heap.size,0,none⟩)])∧w' = w.alloc (.cells vs 24):=by
 obtain ⟨a,b,c,d,rfl⟩:=h4
 refine callsIn_of_wp Tryz.func109 rfl trivial ?_ rfl
 simp only [Tryz.ntmps109,List.size_toArray,List.length_cons,List.length_nil,Nat.reduceAdd,Nat.reduceSub,Array.replicate_succ,Array.replicate_zero,List.push_toArray,List.append_toArray,List.nil_append,List.cons_append]
 gi_wp2
 go_ret
 exact ⟨rfl,rfl⟩
theorem zKt {g:Operand} {p:Tmp} (q:Tmp) {assign body:Code} {Q:Exit→Act→World→Prop} {a:Act} {w:World} (V:World→Nat→Prop) (t:Tree) (n0 Bn:Nat) (A:Option Addr) (cap:Nat)
  (hg:a.eval g = .func (.func 156) #[] #[.pointer (some ⟨Bn,0,none⟩)]) (hn:n0≤Bn) (hBn:Bn < w.heap.size) (hc:w.cell? ⟨Bn,3,none⟩ = some (.slice A t.kids.length cap))
  (hV:∀ W k,Below w.heap.size w W→V W k→n0≤k∧k≠Bn)
  (hv:zAa zAb w (Lt n0) t.kids (.slice A t.kids.length cap)) (hcnt:zAe t≤400000)
  (hKb:∀ (W:World) (l:Nat) (o o':Obj),w.heap.size≤l→l < w.heap.size + 2→W.heap[l]? = some o→o.isCells = false→But V W (W.putObj l o'))
  (I:List PosV→World→Prop) (Ix:Code→List PosV→World→Prop) (hI:OwnFrom w.heap.size I) (hGd:∀ s A,I s A→w.heap.size + 2≤A.heap.size→Gdv V A) (hIx:∀ c,OwnFrom w.heap.size (Ix c)) (h0:I [] w)
  (hassign:∀ (l:Nat) (x:PosV) (W:World) (K:Act→World→Prop),K { tmps:=(a.tmps.setIfInBounds p x.2).setIfInBounds q x.2,defers:=[] } W →
   assign.wpIn (Fence.wide.inRound l) 0 Tryz.prog (Exit.then K (fun _ _ _=>False)) { tmps:=a.tmps.setIfInBounds p x.2,defers:=[] } W)
  (hbody:∀ (l:Nat) (pre:List PosV) (x:PosV) (W:World),I pre W→PRdV V (w.heap.size + 2) x W→(pre ++ [x]).map Prod.fst <+: allS [] t→body.wpIn (Fence.wide.inRound l) 0 Tryz.prog (ownPostK (But V) I Ix (pre ++ [x]) W) { tmps:=(a.tmps.setIfInBounds p x.2).setIfInBounds q x.2,defers:=[] } W)
  (hdone:∀ (D:Nat) (xs:List PosV) (W:World),w.heap.size≤D→xs.map Prod.fst = allS [] t→I xs W→W.heap[D]? = some (.deferred (some []))→Q .normal { a with defers:={ target:=.collected D,args:=#[] } :: a.defers } W)
  (hstop:∀ (D:Nat) (c:Code) (pre:List PosV) (W:World),w.heap.size≤D→pre.map Prod.fst <+: allS [] t→Ix c pre W→W.heap[D]? = some (.deferred (some []))→c.wpIn Fence.wide 0 Tryz.prog Q { a with defers:={ target:=.collected D,args:=#[] } :: a.defers } W) :
  (Code.rangeFunc g #[p] assign body).wpIn Fence.wide 0 Tryz.prog Q a w :=
 zJz hg (enters_of Tryz.func156 (by kernel_rfl) rfl) (zMs V t n0 Bn A cap w hn hBn hc hV hv hcnt) (fun _ _ _ h k=>h.trans k)
  hKb (fun x W l o o' h0 h1 h2 h3 h4=>prdV_own V _ x W l o o' (hKb W l o o' h0 h1 h2 h3) h2 h3 h4) I Ix hI hGd hIx h0 (fun x=>{ tmps:=(a.tmps.setIfInBounds p x.2).setIfInBounds q x.2,defers:=[] }) hassign hbody hdone hstop
theorem zHm {g:Operand} {p:Tmp} (q:Tmp) {assign body:Code} {Q:Exit→Act→World→Prop} {a:Act} {w:World} (t:Tree) (n0 n2 Bn:Nat) (A:Option Addr) (cap:Nat)
  (hg:a.eval g = .func (.func 156) #[] #[.pointer (some ⟨Bn,0,none⟩)]) (hn:n0≤n2) (hn2:n2≤Bn) (hBn:Bn < w.heap.size) (hc:w.cell? ⟨Bn,3,none⟩ = some (.slice A t.kids.length cap))
  (hv:zAa zAb w (Lt n0) t.kids (.slice A t.kids.length cap)) (hcnt:zAe t≤400000)
  (I:List PosV→World→Prop) (Ix:Code→List PosV→World→Prop) (hI:OwnFrom w.heap.size I) (hIx:∀ c,OwnFrom w.heap.size (Ix c)) (h0:I [] w)
  (hassign:∀ (l:Nat) (x:PosV) (W:World) (K:Act→World→Prop),K { tmps:=(a.tmps.setIfInBounds p x.2).setIfInBounds q x.2,defers:=[] } W →
   assign.wpIn (Fence.wide.inRound l) 0 Tryz.prog (Exit.then K (fun _ _ _=>False)) { tmps:=a.tmps.setIfInBounds p x.2,defers:=[] } W)
  (hbody:∀ (l:Nat) (pre:List PosV) (x:PosV) (W:World),I pre W→PRd (w.heap.size + 2) x W→(pre ++ [x]).map Prod.fst <+: allS [] t→body.wpIn (Fence.wide.inRound l) 0 Tryz.prog (ownPostK (But (fun _=>VP n0 n2 w.heap.size)) I Ix (pre ++ [x]) W) { tmps:=(a.tmps.setIfInBounds p x.2).setIfInBounds q x.2,defers:=[] } W)
  (hdone:∀ (D:Nat) (xs:List PosV) (W:World),w.heap.size≤D→xs.map Prod.fst = allS [] t→I xs W→W.heap[D]? = some (.deferred (some []))→Q .normal { a with defers:={ target:=.collected D,args:=#[] } :: a.defers } W)
  (hstop:∀ (D:Nat) (c:Code) (pre:List PosV) (W:World),w.heap.size≤D→pre.map Prod.fst <+: allS [] t→Ix c pre W→W.heap[D]? = some (.deferred (some []))→c.wpIn Fence.wide 0 Tryz.prog Q { a with defers:={ target:=.collected D,args:=#[] } :: a.defers } W) :
  (Code.rangeFunc g #[p] assign body).wpIn Fence.wide 0 Tryz.prog Q a w :=
 zKt q (fun _=>VP n0 n2 w.heap.size) t n0 Bn A cap hg (by omega) hBn hc (fun W k _ h=>by unfold VP at h;omega) hv hcnt (fun W l o o' h1 h2 _ _=>But.putObj W l o' (.inr ⟨h1,h2⟩)) I Ix hI
  (fun s A _ hs W' _ k hk=>⟨hk,by unfold VP at hk;omega⟩) hIx h0 hassign (fun l pre x W h1 h2 h3=>hbody l pre x W h1 (zAa.wide h2 fun k hk=>⟨hk.1,hk.2.1⟩) h3) hdone hstop
attribute [local go_sem] Oper.semAt_some
def zMw (L:List (List Int)) (p:List Int):Option (List Int):=L.find? (fun q=>decide (0 < cmpS q p))
def zMx (t:Tree) (p:List Int):List Int × Int :=
 if chkR (zAf t) (zAs t p) = 0 then (match zMw (allS [] t) p with | some q=>(q,0) | none=>([],8)) else ([],chkR (zAf t) (zAs t p))
theorem find_pre {L:List (List Int)} {pre:List PosV} {x:PosV} (f:List Int→Bool) (h:(pre ++ [x]).map Prod.fst <+: L) (h1:∀ y ∈ pre,f y.1 = false) (h2:f x.1 = true):L.find? f = some x.1:=by
 obtain ⟨r,rfl⟩:=h
 rw [List.find?_append,List.map_append,List.find?_append]
 have:(pre.map Prod.fst).find? f = none:=by rw [List.find?_eq_none];intro q hq;obtain ⟨y,hy,rfl⟩:=List.mem_map.1 hq;simp [h1 y hy]
 rw [this]
 simp [h2]
theorem zQh {L:List (List Int)} {pre:List PosV} (f:List Int→Bool) (h:pre.map Prod.fst = L) (h1:∀ y ∈ pre,f y.1 = false):L.find? f = none:=by
 subst h
 rw [List.find?_eq_none];intro q hq;obtain ⟨y,hy,rfl⟩:=List.mem_map.1 hq;simp [h1 y hy]
set_option maxHeartbeats 4000000 in
theorem next_any (t:Tree) (p:List Int) (A:Option Addr) (cap:Nat) (b:Value) (w:World) (hv:zAa zAb w (Lt w.heap.size) t.kids (.slice A t.kids.length cap)) (htx:t.text.size≤maxLen) (hp:zAh w (Lt w.heap.size) p b) :
  Calls Tryz.prog 75 #[.agg #[.int .i64 t.kind,.string t.text,.int .i64 t.cols,.slice A t.kids.length cap],b] w (zIt w (zMx t p)):=by
 obtain ⟨Ap,cp,rfl⟩:=hp.form
 have HW4:∃ W4,W4 = (((w.alloc (Obj.cells #[.int .i64 t.kind,.string t.text,.int .i64 t.cols,.slice A t.kids.length cap] 24)).alloc (.cells #[.slice Ap p.length cp] 31)).alloc (.cells #[.slice none 0 0] 31)).alloc (.cells #[.int .i64 0] 28):=⟨_,rfl⟩
 obtain ⟨W4,hW4⟩:=HW4
 have hb0:Below w.heap.size w W4:=by rw [hW4];exact ((((Below.refl _ w).alloc (Nat.le_refl _) _).alloc (by simp) _).alloc (by simp;omega) _).alloc (by simp;omega) _
 have hs4:W4.heap.size = w.heap.size + 4:=by rw [hW4];simp
 have HB0:=hid hb0
 have HCK:Hid (Calls Tryz.prog 108 #[.agg #[.int .i64 t.kind,.string t.text,.int .i64 t.cols,.slice A t.kids.length cap],.slice Ap p.length cp] W4 fun e w'=>e = .returned (.int .i64 (chkR (zAf t) (zAs t p)))∧Below W4.heap.size W4 w') :=
  zL9 t p A cap _ W4 (hv.below hb0 hb0.size) htx (hp.below hb0 hb0.size)
 have HWF:Hid (w.heap.size + 1 + 1 + 1 < W4.heap.size):=by rw [hs4];show _ < _;omega
 have KB:Hid (∀ W,Below W4.heap.size W4 W→NBox W w.heap.size t.kind t.cols t.text (.slice A t.kids.length cap)∧W.cell? ⟨w.heap.size + 1,0,none⟩ = some (.slice Ap p.length cp) ∧
   (W.cell? ⟨w.heap.size + 1 + 1,0,none⟩ = some (.slice none 0 0)∧W.frozen? ⟨w.heap.size + 1 + 1,0,none⟩ = false)∧(W.cell? ⟨w.heap.size + 1 + 1 + 1,0,none⟩ = some (.int .i64 0)∧W.frozen? ⟨w.heap.size + 1 + 1 + 1,0,none⟩ = false)):=by
  intro W hW
  have hc:=(bcell hW).1
  have hf:=(bcell hW).2
  rw [hs4] at hc hf
  unfold NBox
  rw [hc _ _ (by omega),hc _ _ (by omega),hc _ _ (by omega),hc _ _ (by omega),hc _ _ (by omega),hc _ _ (by omega),hc _ _ (by omega),hf _ _ (by omega),hf _ _ (by omega),hW4]
  go_simp
 have HVK:Hid (∀ W,Below w.heap.size w W→zAa zAb W (Lt w.heap.size) t.kids (.slice A t.kids.length cap)):=fun W h=>hv.below h (Nat.le_refl _)
 have HPK:Hid (∀ W,Below w.heap.size w W→zAh W (Lt w.heap.size) p (.slice Ap p.length cp)):=fun W h=>hp.below h (Nat.le_refl _)
 have HVC:Hid (zAf t = true→zAe t≤400000):=fun h=>by have:=(zA0 h).1;omega
 have HS4:=hid hs4
 have HW4:=hid hW4
 have hwf:=HWF.out
 clear hv hp hb0 hs4 htx hW4
 by_cases hck:chkR (zAf t) (zAs t p) = 0
 ·have hb12:zAf t = true∧zAs t p = true:=by
   unfold chkR at hck;cases h1:zAf t <;> cases h2:zAs t p <;> simp_all
  have hcnt:=HVC.out hb12.1
  have HCNT:=hid hcnt
  have HR:Hid (zMx t p = (match zMw (allS [] t) p with | some q=>(q,0) | none=>([],8))):=by show _ = _;rw [zMx,if_pos hck]
  rw [hck] at HCK
  generalize hL:allS [] t = L at HR
  have HL:=hid hL
  obtain ⟨r,hr⟩:∃ r,r = ((match zMw L p with | some q=>(q,0) | none=>([],8)):List Int × Int):=⟨_,rfl⟩
  have HRN:Hid (zMw L p = none→r = ([],8)):=fun h=>by rw [hr,h]
  have HRS:Hid (∀ q,zMw L p = some q→r = (q,0)):=fun q h=>by rw [hr,h]
  rw [HR.out,← hr]
  clear hr
  have HPL:Hid (∀ x ∈ L,x.length≤1000000):=by
   subst hL;intro x hx
   have:=(zKd t x (zKj.1 hx)).1
   have:=zDl t
   omega
  obtain ⟨tk,tx,tc,ts⟩:=t
  simp only [Tree.kind,Tree.text,Tree.cols,Tree.kids] at *
  clear hb12 hcnt hck hL HR
  refine (callsIn_wide (n:=0)).1 ?_
  refine callsIn_of_wp_marks Tryz.func75 rfl trivial ?_ rfl
  simp only [Tryz.ntmps75,List.size_toArray,List.length_cons,List.length_nil,Nat.reduceAdd,Nat.reduceSub,Array.replicate_succ,Array.replicate_zero,List.push_toArray,List.append_toArray,List.nil_append,List.cons_append]
  gi_wp2_with fail
  rw [← HW4.out]
  refine ⟨trivial,rfl,?_⟩
  refine (callsIn_wide.2 HCK.out).mono ?_
  rintro e w1 ⟨rfl,hb1⟩
  have HB1:=hid (HB0.out.trans (hb1.mono HB0.out.size))
  have hz:w.heap.size + 1 + 1 + 1 < w1.heap.size:=Nat.lt_of_lt_of_le HWF.out hb1.size
  obtain ⟨⟨q0,q00,q01,q02⟩,qq1,⟨q2,f2⟩,⟨q3,f3⟩⟩:=KB.out w1 hb1
  clear hb1
  gi_wp2_with (refine ⟨trivial,rfl,?_⟩;gi_at_call 109;refine (zJe _ ⟨_,_,_,_,rfl⟩ _ _).mono ?_;rintro e w' ⟨rfl,rfl⟩)
  have HC3:Hid ((w1.alloc (.cells #[.int .i64 tk,.string tx,.int .i64 tc,.slice A ts.length cap] 24)).cell? ⟨w1.heap.size,3,none⟩ = some (.slice A ts.length cap)):=by show _ = _;rw [World.cell?_alloc_new];rfl
  have hb5:Below w.heap.size w (w1.alloc (.cells #[.int .i64 tk,.string tx,.int .i64 tc,.slice A ts.length cap] 24)):=HB1.out.alloc HB1.out.size _
  have hz5:(w1.alloc (.cells #[.int .i64 tk,.string tx,.int .i64 tc,.slice A ts.length cap] 24)).heap.size = w1.heap.size + 1:=by simp
  have q1':=zKq qq1 (.cells #[.int .i64 tk,.string tx,.int .i64 tc,.slice A ts.length cap] 24)
  have q2':=zIb ⟨q2,f2⟩ (.cells #[.int .i64 tk,.string tx,.int .i64 tc,.slice A ts.length cap] 24)
  have q3':=zIb ⟨q3,f3⟩ (.cells #[.int .i64 tk,.string tx,.int .i64 tc,.slice A ts.length cap] 24)
  generalize (w1.alloc (.cells #[.int .i64 tk,.string tx,.int .i64 tc,.slice A ts.length cap] 24)) = W5 at *
  clear q0 q00 q01 q02 qq1 q2 f2 q3 f3
  refine zHm 7 (.mk tk tx tc ts) w.heap.size (w.heap.size + 4) w1.heap.size A cap rfl (by omega) (by omega) (by omega) HC3.out (HVK.out _ hb5) HCNT.out
   (fun pre W=>((∀ y ∈ pre,cmpS y.1 p≤0)∧Below w.heap.size w W)∧W.cell? ⟨w.heap.size + 1,0,none⟩ = some (.slice Ap p.length cp) ∧
    (W.cell? ⟨w.heap.size + 1 + 1,0,none⟩ = some (.slice none 0 0)∧W.frozen? ⟨w.heap.size + 1 + 1,0,none⟩ = false)∧(W.cell? ⟨w.heap.size + 1 + 1 + 1,0,none⟩ = some (.int .i64 0)∧W.frozen? ⟨w.heap.size + 1 + 1 + 1,0,none⟩ = false))
   (fun c pre W=>(c = .ret∧∃ q x,pre = q ++ [x]∧(∀ y ∈ q,cmpS y.1 p≤0)∧0 < cmpS x.1 p∧W.cell? ⟨w.heap.size + 1 + 1,0,none⟩ = some x.2∧W.cell? ⟨w.heap.size + 1 + 1 + 1,0,none⟩ = some (.int .i64 0)∧PRd (W5.heap.size + 2) x W)∧Below w.heap.size w W)
   ?hI ?hIx ⟨⟨by simp,hb5⟩,q1',q2',q3'⟩ ?assign ?body ?done ?stop
  case hI=>exact OwnFrom.and (OwnFrom.and (zNz _ _) (ownFrom_below (Nat.le_refl _) hb5.size)) (OwnFrom.and (zN0 _ _ _) (OwnFrom.and (zMt _ _ _) (zMt _ _ _)))
  case hIx =>
   intro c
   refine OwnFrom.and ?_ (ownFrom_below (Nat.le_refl _) hb5.size)
   rintro s A B row ⟨hc,q,x,hs,h1,h2,h3,h4,h5⟩ hg hr
   exact ⟨hc,q,x,hs,h1,h2,cell_kept h3 hg (fun r e=>(hr r e).2),cell_kept h4 hg (fun r e=>(hr r e).2),zKf _ (W5.heap.size + 2) (fun _=>x.1) (fun _=>x.2) s A B row h5 hg hr⟩
  case assign =>
   intro l x W K hK
   gi_wp2
   exact hK
  case body =>
   rintro l pre ⟨xl,xv⟩ W ⟨⟨hp1,hb⟩,hc1,⟨hc2,hf2⟩,hc3,hf3⟩ hx hpre
   obtain ⟨Ax,cx,rfl,hx⟩:=zF1 hx
   dsimp only
   have HP1:=hid hp1
   have HB:=hid hb
   have HX:=hid hx
   have hzz:w.heap.size + 1 + 1 + 1 < W.heap.size:=World.block_lt_of_cell? W _ hc3
   have HC:Hid (Calls Tryz.prog 110 #[.slice Ax xl.length cx,.slice Ap p.length cp] W fun e w'=>e = .returned (.int .i64 (cmpS xl p))∧W = w'):=scmp_q xl p W (.slice Ax xl.length cx) _ _ _ hx (HPK.out W hb)
   clear hp1 hb hx hpre
   by_cases hgt:0 < cmpS xl p
   ·have dd:decide (0 < cmpS xl p) = true:=by simpa using hgt
    have HG:=hid hgt
    have dd2:decide (cmpS xl p≤0) = false:=by simp;omega
    clear hgt
    generalize hq:cmpS xl p = z at HC dd dd2 HG
    have HZ:=hid hq
    clear hq
    gi_wp2_with (refine ⟨trivial,rfl,?_⟩;gi_at_call 110;refine (CallsIn.inRound l (callsIn_wide.2 HC.out)).mono ?_;rintro e w' ⟨rfl,rfl⟩)
    have r0:((W.setCell ⟨w.heap.size + 1 + 1,0,none⟩ (.slice Ax xl.length cx)).setCell ⟨w.heap.size + 1 + 1 + 1,0,none⟩ (.int .i64 0)).cell? ⟨w.heap.size + 1 + 1,0,none⟩ = some (.slice Ax xl.length cx):=by go_simp
    have r1:((W.setCell ⟨w.heap.size + 1 + 1,0,none⟩ (.slice Ax xl.length cx)).setCell ⟨w.heap.size + 1 + 1 + 1,0,none⟩ (.int .i64 0)).cell? ⟨w.heap.size + 1 + 1 + 1,0,none⟩ = some (.int .i64 0):=by go_simp
    have hb2:=(HB.out.setCell (p:=⟨w.heap.size + 1 + 1,0,none⟩) (by simp;omega) (.slice Ax xl.length cx)).setCell (p:=⟨w.heap.size + 1 + 1 + 1,0,none⟩) (by simp;omega) (.int .i64 0)
    refine ⟨(KeepsOthers.setCell _ _ _).trans (KeepsOthers.setCell _ _ _),⟨rfl,pre,_,rfl,HP1.out,by rw [HZ.out];exact HG.out,r0,r1,?_⟩,hb2⟩
    refine zAa.keep HX.out (fun q hq=>?_) (fun k hk=>⟨hk.1,by simpa using hk.2⟩)
    have h1:W5.heap.size + 2≤q.block:=hq.1
    rw [zEf _ trivial (by simp;omega),zEf _ trivial (by simp;omega)]
   ·have dd:decide (0 < cmpS xl p) = false:=by simpa using hgt
    have dd2:decide (cmpS xl p≤0) = true:=by simp;omega
    have HG:Hid (cmpS xl p≤0):=by show _≤_;omega
    clear hgt
    generalize hq:cmpS xl p = z at HC dd dd2 HG
    have HZ:=hid hq
    clear hq
    gi_wp2_with (refine ⟨trivial,rfl,?_⟩;gi_at_call 110;refine (CallsIn.inRound l (callsIn_wide.2 HC.out)).mono ?_;rintro e w' ⟨rfl,rfl⟩)
    refine ⟨KeepsOthers.refl _,But.refl _ _,⟨?_,HB.out⟩,hc1,⟨hc2,hf2⟩,hc3,hf3⟩
    intro y hy
    rcases List.mem_append.1 hy with hy | hy
    ·exact HP1.out y hy
    ·obtain rfl:=List.mem_singleton.1 hy
     show cmpS xl p≤0
     rw [HZ.out];exact HG.out
  case done =>
   rintro D xs W hD hxs ⟨⟨hp1,hb⟩,hc1,⟨hc2,hf2⟩,hc3,hf3⟩ hK
   have HN:=hid (zQh (L:=L) (fun q=>decide (0 < cmpS q p)) (by rw [hxs,HL.out]) (fun y hy=>by simpa using hp1 y hy))
   have HB:=hid hb
   clear hp1 hb hxs
   have hzz:w.heap.size + 1 + 1 + 1 < W.heap.size:=World.block_lt_of_cell? W _ hc3
   gi_wp2
   have r0:((W.setCell ⟨w.heap.size + 1 + 1,0,none⟩ (.slice none 0 0)).setCell ⟨w.heap.size + 1 + 1 + 1,0,none⟩ (.int .i64 8)).cell? ⟨w.heap.size + 1 + 1,0,none⟩ = some (.slice none 0 0):=by go_simp
   have r1:((W.setCell ⟨w.heap.size + 1 + 1,0,none⟩ (.slice none 0 0)).setCell ⟨w.heap.size + 1 + 1 + 1,0,none⟩ (.int .i64 8)).cell? ⟨w.heap.size + 1 + 1 + 1,0,none⟩ = some (.int .i64 8):=by go_simp
   have hb2:=(HB.out.setCell (p:=⟨w.heap.size + 1 + 1,0,none⟩) (by simp;omega) (.slice none 0 0)).setCell (p:=⟨w.heap.size + 1 + 1 + 1,0,none⟩) (by simp;omega) (.int .i64 8)
   have hK2:=((KeepsOthers.setCell W ⟨w.heap.size + 1 + 1,0,none⟩ (.slice none 0 0)).trans (KeepsOthers.setCell _ ⟨w.heap.size + 1 + 1 + 1,0,none⟩ (.int .i64 8))).same D _ hK rfl
   generalize ((W.setCell ⟨w.heap.size + 1 + 1,0,none⟩ (.slice none 0 0)).setCell ⟨w.heap.size + 1 + 1 + 1,0,none⟩ (.int .i64 8)) = W2 at *
   have r0':=zHk r0 (.deferred none) hK2 rfl
   have r1':=zHk r1 (.deferred none) hK2 rfl
   have hb3:=hb2.trans (belowK_b (w:=w) (Nat.le_refl _) W2 D _ (.deferred none) (by omega) hK2 rfl rfl)
   refine ⟨by simp,.inl ⟨_,_,rfl,run_takeDeferred hK2,?_⟩⟩
   generalize W2.putObj D (.deferred none) = W3 at *
   rw [HRN.out HN.out]
   exact ⟨.tuple #[.slice none 0 0,.int .i64 8],by simp [results,Tryz.results75,go_sem,r0',r1'],hb3,_,rfl,zAa.nil_ 0 (by simp [maxLen]) none⟩
  case stop =>
   rintro D c pre W hD hpre ⟨⟨rfl,q,⟨xl,xv⟩,rfl,h1,h2,h3,h4,hx⟩,hb⟩ hK
   have HN:=hid (find_pre (L:=L) (fun q=>decide (0 < cmpS q p)) (by rw [← HL.out];exact hpre) (fun y hy=>by simpa using h1 y hy) (by simpa using h2))
   obtain ⟨Ax,cx,rfl,hx⟩:=zF1 hx
   have HB:=hid hb
   have HX:=hid hx
   clear hb h1 h2 hpre hx
   gi_wp2
   have r0':=zHk h3 (.deferred none) hK rfl
   have r1':=zHk h4 (.deferred none) hK rfl
   have hb3:=HB.out.trans (belowK_b (w:=w) (Nat.le_refl _) W D _ (.deferred none) (by omega) hK rfl rfl)
   have hx3:=zMr (W5.heap.size + 2) (xl,.slice Ax xl.length cx) W D _ (.deferred none) hK rfl HX.out
   refine ⟨by simp,.inl ⟨_,_,rfl,run_takeDeferred hK,?_⟩⟩
   generalize W.putObj D (.deferred none) = W3 at *
   rw [HRS.out _ HN.out]
   exact ⟨.tuple #[.slice Ax xl.length cx,.int .i64 0],by simp [results,Tryz.results75,go_sem,r0',r1'],hb3,_,rfl,zAa.wide hx3 (fun k hk=>⟨by omega,hk.2⟩)⟩
 ·have HR:Hid (zMx t p = ([],chkR (zAf t) (zAs t p))):=by show _ = _;rw [zMx,if_neg hck]
  have d1:(chkR (zAf t) (zAs t p) != 0) = true:=by simpa using hck
  have HCK1:=HCK
  rw [HR.out]
  clear HR hck HCK
  generalize chkR (zAf t) (zAs t p) = c at *
  obtain ⟨tk,tx,tc,ts⟩:=t
  simp only [Tree.kind,Tree.text,Tree.cols,Tree.kids] at *
  go_enter Tryz.func75,Tryz.ntmps75
  go_wp2_with fail
  rw [← HW4.out]
  refine HCK1.out.mono ?_
  rintro e w1 ⟨rfl,hb1⟩
  have HB1:=hid (HB0.out.trans (hb1.mono HB0.out.size))
  have hz:w.heap.size + 1 + 1 + 1 < w1.heap.size:=Nat.lt_of_lt_of_le HWF.out hb1.size
  obtain ⟨_,_,⟨q2,f2⟩,⟨q3,f3⟩⟩:=KB.out w1 hb1
  clear hb1
  go_wp2_with fail
  have r0:((w1.setCell ⟨w.heap.size + 1 + 1,0,none⟩ (.slice none 0 0)).setCell ⟨w.heap.size + 1 + 1 + 1,0,none⟩ (.int .i64 c)).cell? ⟨w.heap.size + 1 + 1,0,none⟩ = some (.slice none 0 0):=by go_simp
  have r1:((w1.setCell ⟨w.heap.size + 1 + 1,0,none⟩ (.slice none 0 0)).setCell ⟨w.heap.size + 1 + 1 + 1,0,none⟩ (.int .i64 c)).cell? ⟨w.heap.size + 1 + 1 + 1,0,none⟩ = some (.int .i64 c):=by go_simp
  have hb2:Below w.heap.size w ((w1.setCell ⟨w.heap.size + 1 + 1,0,none⟩ (.slice none 0 0)).setCell ⟨w.heap.size + 1 + 1 + 1,0,none⟩ (.int .i64 c)):=(HB1.out.setCell (p:=⟨w.heap.size + 1 + 1,0,none⟩) (by simp;omega) _).setCell (p:=⟨w.heap.size + 1 + 1 + 1,0,none⟩) (by simp;omega) _
  generalize ((w1.setCell ⟨w.heap.size + 1 + 1,0,none⟩ (.slice none 0 0)).setCell ⟨w.heap.size + 1 + 1 + 1,0,none⟩ (.int .i64 c)) = W2 at *
  exact bodyPost_ret (v:=.tuple #[.slice none 0 0,.int .i64 c]) (by simp [results,Tryz.results75,go_sem,r0,r1]) rfl ⟨hb2,_,rfl,zAa.nil_ 0 (by simp [maxLen]) none⟩
attribute [local go_sem] Oper.semAt_some
theorem box_two (w1:World) (b u0 u1 u2 u3:Value) (ty tn:TypeId) :
  ((w1.alloc (.cells #[b] ty)).alloc (.cells #[u0,u1,u2,u3] tn)).cell? ⟨w1.heap.size + 1,3,none⟩ = some u3 ∧
  (((w1.alloc (.cells #[b] ty)).alloc (.cells #[u0,u1,u2,u3] tn)).cell? ⟨w1.heap.size,0,none⟩ = some b∧((w1.alloc (.cells #[b] ty)).alloc (.cells #[u0,u1,u2,u3] tn)).frozen? ⟨w1.heap.size,0,none⟩ = false) ∧
  ((w1.alloc (.cells #[b] ty)).alloc (.cells #[u0,u1,u2,u3] tn)).heap.size = w1.heap.size + 2:=by
 have hh:=World.alloc_heap_new w1 (.cells #[b] ty)
 have h:(w1.alloc (.cells #[b] ty)).cell? ⟨w1.heap.size,0,none⟩ = some b∧(w1.alloc (.cells #[b] ty)).frozen? ⟨w1.heap.size,0,none⟩ = false:=by
  generalize w1.alloc (.cells #[b] ty) = W at hh ⊢
  constructor <;> simp [World.cell?,World.frozen?,hh]
 refine ⟨?_,zIb h _,by simp⟩
 have e:(w1.alloc (.cells #[b] ty)).heap.size = w1.heap.size + 1:=by simp
 rw [← e,World.cell?_alloc_new];rfl
attribute [local go_sem] Oper.semAt_some
theorem zJ0 {L:List (List Int)} {pre:List PosV} {x:PosV} (f:List Int→Bool) (h:(pre ++ [x]).map Prod.fst <+: L) (h1:∀ y ∈ pre,f y.1 = true) (h2:f x.1 = false):L.takeWhile f = pre.map Prod.fst:=by
 obtain ⟨r,rfl⟩:=h
 have h3:∀ a ∈ pre.map Prod.fst,f a = true:=fun a ha=>by obtain ⟨y,hy,rfl⟩:=List.mem_map.1 ha;exact h1 y hy
 rw [List.map_append,List.append_assoc,List.takeWhile_append_of_pos h3]
 simp [List.takeWhile_cons,h2]
theorem zJ1 {L:List (List Int)} {pre:List PosV} (f:List Int→Bool) (h:pre.map Prod.fst = L) (h1:∀ y ∈ pre,f y.1 = true):L.takeWhile f = pre.map Prod.fst:=by
 subst h
 have h3:∀ a ∈ pre.map Prod.fst,f a = true:=fun a ha=>by obtain ⟨y,hy,rfl⟩:=List.mem_map.1 ha;exact h1 y hy
 have:=List.takeWhile_append_of_pos (l₂:=[]) h3
 simpa using this
attribute [local go_sem] Oper.semAt_some
def zG9 (pre:List PosV):Value:=match pre.getLast? with | some x=>x.2 | none=>.slice none 0 0
def zOs (pre:List PosV):List Int:=match pre.getLast? with | some x=>x.1 | none=>[]
theorem zDu (pre:List PosV) (x:PosV):zG9 (pre ++ [x]) = x.2:=by simp [zG9]
theorem zGn (pre:List PosV) (x:PosV):zOs (pre ++ [x]) = x.1:=by simp [zOs]
def zHa (L:List (List Int)) (p:List Int):Option (List Int):=(L.takeWhile (fun q=>decide (q≠p))).getLast?
def optR (o:Option (List Int)):List Int × Int:=match o with | some q=>(q,0) | none=>([],8)
def zMq (t:Tree) (p:List Int):List Int × Int:=if chkR (zAf t) (zAs t p) = 0 then optR (zHa (allS [] t) p) else ([],chkR (zAf t) (zAs t p))
set_option maxHeartbeats 4000000 in
theorem prev_any (t:Tree) (p:List Int) (A:Option Addr) (cap:Nat) (b:Value) (w:World) (hv:zAa zAb w (Lt w.heap.size) t.kids (.slice A t.kids.length cap)) (htx:t.text.size≤maxLen) (hp:zAh w (Lt w.heap.size) p b) :
  Calls Tryz.prog 76 #[.agg #[.int .i64 t.kind,.string t.text,.int .i64 t.cols,.slice A t.kids.length cap],b] w (zIt w (zMq t p)):=by
 obtain ⟨Ap,cp,rfl⟩:=hp.form
 obtain ⟨W4,hW4⟩:∃ W4,W4 = (w.alloc (Obj.cells #[.int .i64 t.kind,.string t.text,.int .i64 t.cols,.slice A t.kids.length cap] 24)).alloc (.cells #[.slice Ap p.length cp] 31):=⟨_,rfl⟩
 have hb0:Below w.heap.size w W4:=by rw [hW4];exact ((Below.refl _ w).alloc (Nat.le_refl _) _).alloc (by simp) _
 have hs4:W4.heap.size = w.heap.size + 2:=by rw [hW4];simp
 have HB0:=hid hb0
 have HCK:Hid (Calls Tryz.prog 108 #[.agg #[.int .i64 t.kind,.string t.text,.int .i64 t.cols,.slice A t.kids.length cap],.slice Ap p.length cp] W4 fun e w'=>e = .returned (.int .i64 (chkR (zAf t) (zAs t p)))∧Below W4.heap.size W4 w') :=
  zL9 t p A cap _ W4 (hv.below hb0 hb0.size) htx (hp.below hb0 hb0.size)
 have KB:Hid (∀ W,Below W4.heap.size W4 W→NBox W w.heap.size t.kind t.cols t.text (.slice A t.kids.length cap)∧W.cell? ⟨w.heap.size + 1,0,none⟩ = some (.slice Ap p.length cp)):=by
  intro W hW
  have hc:=(bcell hW).1
  rw [hs4] at hc
  unfold NBox
  rw [hc _ _ (by omega),hc _ _ (by omega),hc _ _ (by omega),hc _ _ (by omega),hc _ _ (by omega),hW4]
  go_simp
 have HVK:Hid (∀ W,Below w.heap.size w W→zAa zAb W (Lt w.heap.size) t.kids (.slice A t.kids.length cap)):=fun W h=>hv.below h (Nat.le_refl _)
 have HPK:Hid (∀ W,Below w.heap.size w W→zAh W (Lt w.heap.size) p (.slice Ap p.length cp)):=fun W h=>hp.below h (Nat.le_refl _)
 have HVC:Hid (zAf t = true→zAe t≤1000):=fun h=>(zA0 h).1
 have HS4:=hid hs4
 have HW4:=hid hW4
 clear hv hp hb0 hs4 htx hW4
 by_cases hck:chkR (zAf t) (zAs t p) = 0
 ·have hb12:zAf t = true∧zAs t p = true:=by
   unfold chkR at hck;cases h1:zAf t <;> cases h2:zAs t p <;> simp_all
  have hcnt:=HVC.out hb12.1
  have HCNT:=hid hcnt
  have HLE:Hid ((allS [] t).length≤2000):=by show _≤_;rw [zHl];have:=zKp t;omega
  have HR:Hid (zMq t p = optR (zHa (allS [] t) p)):=by show _ = _;rw [zMq,if_pos hck]
  have HNE:Hid (∀ q ∈ allS [] t,0 < q.length):=fun q hq=>by
   have:=zKj.1 hq
   rcases q with _ | ⟨_,_⟩
   ·simp [zAs] at this
   ·simp
  rw [hck] at HCK
  rw [HR.out]
  generalize hL:allS [] t = L at *
  have HL:=hid hL
  have HLT:Hid (∀ q:List PosV,(∀ y ∈ q,y.1≠p)→q.map Prod.fst = L→(q.map Prod.fst).getLast? = zHa L p):=fun q h1 h2=>by
   rw [zHa,zJ1 _ h2 (fun y hy=>by simpa using h1 y hy)]
  have HLS:Hid (∀ (q:List PosV) (x:PosV),(∀ y ∈ q,y.1≠p)→x.1 = p→(q ++ [x]).map Prod.fst <+: L→(q.map Prod.fst).getLast? = zHa L p):=fun q x h1 h3 h2=>by
   rw [zHa,zJ0 _ h2 (fun y hy=>by simpa using h1 y hy) (by simpa using h3)]
  have HRN:Hid (∀ q:List PosV,(q.map Prod.fst).getLast? = zHa L p→q = []→optR (zHa L p) = ([],8)):=fun q h1 h2=>by subst h2;rw [← h1];rfl
  have HRS:Hid (∀ q:List PosV,(q.map Prod.fst).getLast? = zHa L p→∀ q' x,q = q' ++ [x]→optR (zHa L p) = (x.1,0)):=fun q h1 q' x h2=>by subst h2;rw [← h1];simp [optR]
  generalize zHa L p = O at *
  generalize optR O = r at *
  obtain ⟨tk,tx,tc,ts⟩:=t
  simp only [Tree.kind,Tree.text,Tree.cols,Tree.kids] at *
  clear hcnt hck hL HR HVC hb12
  refine (callsIn_wide (n:=0)).1 ?_
  refine callsIn_of_wp_marks Tryz.func76 rfl trivial ?_ rfl
  simp only [Tryz.ntmps76,List.size_toArray,List.length_cons,List.length_nil,Nat.reduceAdd,Nat.reduceSub,Array.replicate_succ,Array.replicate_zero,List.push_toArray,List.append_toArray,List.nil_append,List.cons_append]
  gi_wp2_with fail
  rw [← HW4.out]
  refine ⟨trivial,rfl,?_⟩
  refine (callsIn_wide.2 HCK.out).mono ?_
  rintro e w1 ⟨rfl,hb1⟩
  have HB1:=hid (HB0.out.trans (hb1.mono HB0.out.size))
  have HZ1:Hid (w.heap.size + 1 < w1.heap.size):=by have:=HS4.out;have:=hb1.size;show _ < _;omega
  have hz:=HZ1.out
  have hz0:w.heap.size < w1.heap.size:=by omega
  obtain ⟨⟨q0,q00,q01,q02⟩,qq⟩:=KB.out w1 hb1
  clear hb1
  gi_wp2_with (refine ⟨trivial,rfl,?_⟩;gi_at_call 109;refine (zJe _ ⟨_,_,_,_,rfl⟩ _ _).mono ?_;rintro e w' ⟨rfl,rfl⟩)
  obtain ⟨HC3,⟨k0,kf⟩,hz5⟩:=box_two w1 (.slice none 0 0) (.int .i64 tk) (.string tx) (.int .i64 tc) (.slice A ts.length cap) 31 24
  have hb5:Below w.heap.size w ((w1.alloc (.cells #[.slice none 0 0] 31)).alloc (.cells #[.int .i64 tk,.string tx,.int .i64 tc,.slice A ts.length cap] 24)):=(HB1.out.alloc HB1.out.size _).alloc (by simp;omega) _
  have kq:=zKq (zKq qq (.cells #[.slice none 0 0] 31)) (.cells #[.int .i64 tk,.string tx,.int .i64 tc,.slice A ts.length cap] 24)
  generalize ((w1.alloc (.cells #[.slice none 0 0] 31)).alloc (.cells #[.int .i64 tk,.string tx,.int .i64 tc,.slice A ts.length cap] 24)) = W5 at *
  clear q0 q00 q01 q02 qq
  have HB5:=hid hb5
  refine zHm 8 (.mk tk tx tc ts) w.heap.size (w1.heap.size + 1) (w1.heap.size + 1) A cap rfl (by omega) (by omega) (by omega) HC3 (HVK.out _ hb5) (by have:=HCNT.out;omega)
   (fun pre W=>((∀ y ∈ pre,y.1≠p)∧Below w.heap.size w W)∧W.cell? ⟨w.heap.size + 1,0,none⟩ = some (.slice Ap p.length cp)∧(W.cell? ⟨w1.heap.size,0,none⟩ = some (zG9 pre)∧W.frozen? ⟨w1.heap.size,0,none⟩ = false)∧zAh W (fun k=>W5.heap.size + 2≤k∧k < W.heap.size) (zOs pre) (zG9 pre))
   (fun c pre W=>(c = .exit 0∧∃ q x,pre = q ++ [x]∧(∀ y ∈ q,y.1≠p)∧x.1 = p∧W.cell? ⟨w1.heap.size,0,none⟩ = some (zG9 q)∧zAh W (fun k=>W5.heap.size + 2≤k∧k < W.heap.size) (zOs q) (zG9 q))∧Below w.heap.size w W)
   ?hI ?hIx ⟨⟨by simp,hb5⟩,kq,⟨k0,kf⟩,zAa.nil_ 0 (by simp [maxLen]) none⟩ ?assign ?body ?done ?stop
  case hI=>exact OwnFrom.and (OwnFrom.and (zNz _ _) (ownFrom_below (Nat.le_refl _) hb5.size)) (OwnFrom.and (zN0 _ _ _) (OwnFrom.and (zMt _ _ zG9) (zKf _ _ zOs zG9)))
  case hIx =>
   intro c
   refine OwnFrom.and ?_ (ownFrom_below (Nat.le_refl _) hb5.size)
   rintro s A B row ⟨hc,q,x,h1,h2,h3,h4,h5⟩ hg hr
   exact ⟨hc,q,x,h1,h2,h3,cell_kept h4 hg (fun r e=>(hr r e).2),zKf _ (W5.heap.size + 2) (fun _=>zOs q) (fun _=>zG9 q) s A B row h5 hg hr⟩
  case assign =>
   intro l x W K hK
   gi_wp2
   exact hK
  case body =>
   rintro l pre ⟨xl,xv⟩ W ⟨⟨hp1,hb⟩,hcp,⟨hc1,hf1⟩,hlv⟩ hx hpre
   obtain ⟨Ax,cx,rfl,hx⟩:=zF1 hx
   dsimp only
   have HP1:=hid hp1
   have HB:=hid hb
   have HX:=hid hx
   have HLV:=hid hlv
   have hzz:=World.block_lt_of_cell? W _ hc1
   have HC0:Hid (Calls Tryz.prog 111 #[.slice Ax xl.length cx,.slice Ap p.length cp] W fun e w'=>e = .returned (.bool (decide (xl = p)))∧∃ m,w' = W.drewN m):=equal_q xl p W _ _ _ _ hx (HPK.out W hb)
   clear hb hx hpre hp1 hlv
   by_cases hxp:xl = p
   ·have HXP:=hid hxp
    have hd:decide (xl = p) = true:=by simpa using hxp
    rw [hd] at HC0
    clear hxp hd
    have HC1:=hid hc1
    gi_wp2_with (refine ⟨trivial,rfl,?_⟩;gi_at_call 111;refine (CallsIn.inRound l (callsIn_wide.2 HC0.out)).mono ?_;rintro e w' ⟨rfl,m,rfl⟩)
    exact ⟨zJk W m,⟨rfl,pre,_,rfl,HP1.out,HXP.out,HC1.out,zAa.keep HLV.out (fun _ _=>rfl) (fun _ h=>h)⟩,zEt HB.out m⟩
   ·have HXP:=hid hxp
    have hd:decide (xl = p) = false:=by simpa using hxp
    have HPN:Hid (∀ y ∈ pre ++ [((xl,.slice Ax xl.length cx):PosV)],y.1≠p):=by
     intro y hy
     rcases List.mem_append.1 hy with hy | hy
     ·exact HP1.out y hy
     ·obtain rfl:=List.mem_singleton.1 hy
      exact hxp
    rw [hd] at HC0
    clear hxp hd HLS
    have HC1:=hid hc1
    have HFF:=hid hf1
    obtain ⟨lv,hlv⟩:∃ lv,lv = zG9 pre:=⟨_,rfl⟩
    rw [← hlv] at hc1
    have HZ5:=hid hz5
    clear hlv hz5
    gi_wp2_with (refine ⟨trivial,rfl,?_⟩;gi_at_call 111;refine (CallsIn.inRound l (callsIn_wide.2 HC0.out)).mono ?_;rintro e w' ⟨rfl,m,rfl⟩)
    refine ⟨(zJk W m).trans (KeepsOthers.setCell _ _ _),(But.drewN W m).trans (But.setCell (V:=VP _ _ _) _ (p:=⟨w1.heap.size,0,none⟩) (.inl ⟨by simp;omega,by simp⟩) _),⟨HPN.out,(zEt HB.out m).setCell (p:=⟨w1.heap.size,0,none⟩) (by simp;omega) _⟩,?_,⟨?_,?_⟩,?_⟩
    ·rw [zEf _ trivial (by simp;omega)];exact hcp
    ·rw [zDu];exact World.cell?_setCell_same' _ _ _ (by show (W.cell? _).isSome = true;rw [HC1.out];rfl)
    ·rw [World.frozen?_setCell];exact HFF.out
    ·rw [zDu,zGn]
     refine zAa.keep HX.out (fun q hq=>?_) (fun k hk=>⟨hk.1,by have:=hk.2;simpa using this⟩)
     have h1:W5.heap.size + 2≤q.block:=hq.1
     have:=HZ5.out
     rw [zEf _ trivial (by simp;omega)]
     rfl
  case done =>
   rintro D xs W hD hxs ⟨⟨hp1,hb⟩,hcp,⟨hc1,hf1⟩,hlv⟩ hK
   have HO:=hid (HLT.out xs hp1 (by rw [hxs,HL.out]))
   have HNX:Hid (∀ q' x,xs = q' ++ [x]→0 < x.1.length):=fun q' x h=>HNE.out x.1 (by rw [← HL.out,← hxs,h];simp)
   have HB:=hid (hb.trans (belowK_b (w:=w) (Nat.le_refl _) W D _ (.deferred none) (by have:=hb5.size;omega) hK rfl rfl))
   have HLV:=hid hlv
   have hn:=fun w=>Lib.run_eql_slice_nil (P:=Tryz.prog) w
   clear hb hxs hp1 hlv hf1 hcp
   rcases List.eq_nil_or_concat xs with rfl | ⟨q',x,rfl⟩
   ·have hlv0:zG9 ([]:List PosV) = .slice none 0 0:=rfl
    rw [hlv0] at hc1
    clear hlv0
    gi_wp2
    refine ⟨by simp,.inl ⟨_,_,rfl,run_takeDeferred hK,?_⟩⟩
    rw [HRN.out _ HO.out rfl]
    exact ⟨.tuple #[.slice none 0 0,.int .i64 8],by simp [results,Tryz.results76,go_sem],HB.out,_,rfl,zAa.nil_ 0 (by simp [maxLen]) none⟩
   ·rw [List.concat_eq_append] at *
    have HNX2:=HNX.out q' x rfl
    have hl:=HLV.out
    rw [zDu,zGn] at hl
    rw [zDu] at hc1
    obtain ⟨xl,xv⟩:=x
    obtain ⟨Ax,cx,rfl,hx⟩:=zF1 hl
    dsimp only at hc1
    obtain ⟨ad,rfl⟩:∃ ad,Ax = some ad:=by
     obtain ⟨_,_,cs,e,_,_,h7,h8⟩:=hx
     cases e
     exact h7.some_ (by rw [h8.len];simpa [intE] using HNX2)
    have HX:=hid (zMr (W5.heap.size + 2) (xl,.slice (some ad) xl.length cx) W D _ (.deferred none) hK rfl hx)
    clear hl hx HNX2
    gi_wp2
    refine ⟨by simp,.inl ⟨_,_,rfl,run_takeDeferred hK,?_⟩⟩
    rw [HRS.out _ HO.out _ _ rfl]
    exact ⟨.tuple #[.slice (some ad) xl.length cx,.int .i64 0],by simp [results,Tryz.results76,go_sem],HB.out,_,rfl,zAa.wide HX.out (fun k hk=>⟨by have:=hb5.size;omega,hk.2⟩)⟩
  case stop =>
   rintro D c pre W hD hpre ⟨⟨rfl,xs,y,rfl,hp1,hy,hc1,hlv⟩,hb⟩ hK
   have HO:=hid (HLS.out xs y hp1 hy (by rw [← HL.out];exact hpre))
   have HNX:Hid (∀ q' x,xs = q' ++ [x]→0 < x.1.length):=fun q' x h=>HNE.out x.1 (by
    rw [HL.out,h] at hpre
    exact hpre.subset (by simp))
   have HB:=hid (hb.trans (belowK_b (w:=w) (Nat.le_refl _) W D _ (.deferred none) (by have:=hb5.size;omega) hK rfl rfl))
   have HLV:=hid hlv
   have hn:=fun w=>Lib.run_eql_slice_nil (P:=Tryz.prog) w
   clear hb hpre hp1 hlv hy
   rcases List.eq_nil_or_concat xs with rfl | ⟨q',x,rfl⟩
   ·have hlv0:zG9 ([]:List PosV) = .slice none 0 0:=rfl
    rw [hlv0] at hc1
    clear hlv0
    gi_wp2
    refine ⟨by simp,.inl ⟨_,_,rfl,run_takeDeferred hK,?_⟩⟩
    rw [HRN.out _ HO.out rfl]
    exact ⟨.tuple #[.slice none 0 0,.int .i64 8],by simp [results,Tryz.results76,go_sem],HB.out,_,rfl,zAa.nil_ 0 (by simp [maxLen]) none⟩
   ·rw [List.concat_eq_append] at *
    have HNX2:=HNX.out q' x rfl
    have hl:=HLV.out
    rw [zDu,zGn] at hl
    rw [zDu] at hc1
    obtain ⟨xl,xv⟩:=x
    obtain ⟨Ax,cx,rfl,hx⟩:=zF1 hl
    dsimp only at hc1
    obtain ⟨ad,rfl⟩:∃ ad,Ax = some ad:=by
     obtain ⟨_,_,cs,e,_,_,h7,h8⟩:=hx
     cases e
     exact h7.some_ (by rw [h8.len];simpa [intE] using HNX2)
    have HX:=hid (zMr (W5.heap.size + 2) (xl,.slice (some ad) xl.length cx) W D _ (.deferred none) hK rfl hx)
    clear hl hx HNX2
    gi_wp2
    refine ⟨by simp,.inl ⟨_,_,rfl,run_takeDeferred hK,?_⟩⟩
    rw [HRS.out _ HO.out _ _ rfl]
    exact ⟨.tuple #[.slice (some ad) xl.length cx,.int .i64 0],by simp [results,Tryz.results76,go_sem],HB.out,_,rfl,zAa.wide HX.out (fun k hk=>⟨by have:=hb5.size;omega,hk.2⟩)⟩
 ·have HR:Hid (zMq t p = ([],chkR (zAf t) (zAs t p))):=by show _ = _;rw [zMq,if_neg hck]
  have d1:(chkR (zAf t) (zAs t p) != 0) = true:=by simpa using hck
  rw [HR.out]
  clear HR hck
  generalize chkR (zAf t) (zAs t p) = c at *
  obtain ⟨tk,tx,tc,ts⟩:=t
  simp only [Tree.kind,Tree.text,Tree.cols,Tree.kids] at *
  go_enter Tryz.func76,Tryz.ntmps76
  go_wp2_with fail
  rw [← HW4.out]
  refine HCK.out.mono ?_
  rintro e w1 ⟨rfl,hb1⟩
  have HB1:=hid (HB0.out.trans (hb1.mono HB0.out.size))
  clear hb1
  go_wp2_with fail
  exact bodyPost_ret (v:=.tuple #[.slice none 0 0,.int .i64 c]) (by simp [results,Tryz.results76,go_sem]) rfl ⟨HB1.out,_,rfl,zAa.nil_ 0 (by simp [maxLen]) none⟩
end Go.Proofs.YtbjcioknfjofkaaGreat
namespace Go.Proofs.YtbjcioknfjofkaaGreat
open Go.RowKit
def SlB (w:World) (g:Nat):Prop:=∀ j u,w.cell? ⟨g,j,none⟩ = some u→∃ A n c,u = .slice A n c
theorem zHe {w:World} {S:Nat→Prop} {g:Nat} {A:Option Addr} {cs:List Value} (h:SlB w g) (hr:zBk w S A cs) (h0:∀ u,cs[0]? = some u→∀ B n c,u≠.slice B n c):zBk w (fun k=>S k∧k≠g) A cs:=by
 intro hl
 obtain ⟨g',o,e,hg,hc⟩:=hr hl
 refine ⟨g',o,e,⟨hg,?_⟩,hc⟩
 rintro rfl
 have hu:cs[0]? = some cs[0]:=List.getElem?_eq_getElem hl
 obtain ⟨B,n,c,e9⟩:=h _ _ (hc 0 _ hu)
 exact h0 _ hu B n c e9
theorem zM1 {w:World} {S:Nat→Prop} {g:Nat} {xs:List Int} {v:Value} (h:SlB w g) (hr:zAh w S xs v):zAh w (fun k=>S k∧k≠g) xs v:=by
 obtain ⟨A,cap,cs,rfl,h1,h2,h3,h4⟩:=hr
 obtain ⟨e,h5⟩:=zB3.1 h4
 refine ⟨A,cap,cs,rfl,h1,h2,zHe h h3 (fun u hu B n c=>?_),zB3.2 ⟨e,h5⟩⟩
 subst e
 rw [List.getElem?_map] at hu
 rcases hx:xs[0]? with _ | x
 ·rw [hx] at hu;cases hu
 ·rw [hx] at hu;cases hu;intro e;cases e
mutual
theorem treeR_av {w : World} {S : Nat → Prop} {g : Nat} (hg : SlB w g) : (t : Tree) → (cs : List Value) → zDi w S t cs → zDi w (fun k => S k ∧ k ≠ g) t cs
  | .mk k s c ts, cs, h => by
    unfold zDi at h ⊢
    obtain ⟨A, cap, rs, h1, h2, h3, h4, h5, h6, h7, h8⟩ := h
    refine ⟨A, cap, rs, h1, h2, h3, h4, h5, h6, zHe hg h7 (fun u hu B n c => ?_), zHo hg ts rs h8⟩
    cases ts with
    | nil => unfold zCn at h8; subst h8; cases hu
    | cons t ts =>
      unfold zCn at h8
      obtain ⟨a, r, rfl, h9, _⟩ := h8
      obtain ⟨k', s', c', ts'⟩ := t
      unfold zDi at h9
      obtain ⟨_, _, _, rfl, _⟩ := h9
      cases hu; intro e; cases e
theorem zHo {w : World} {S : Nat → Prop} {g : Nat} (hg : SlB w g) : (ts : List Tree) → (cs : List Value) → zCn w S ts cs → zCn w (fun k => S k ∧ k ≠ g) ts cs
  | [], cs, h => by unfold zCn at h ⊢; exact h
  | t :: ts, cs, h => by
    unfold zCn at h ⊢
    obtain ⟨a, r, h1, h2, h3⟩ := h
    exact ⟨a, r, h1, treeR_av hg t a h2, zHo hg ts r h3⟩
end
theorem trees_av {w : World} {S : Nat → Prop} {g : Nat} {xs : List Tree} {v : Value} (h : SlB w g) (hr : zAa zAb w S xs v) : zAa zAb w (fun k => S k ∧ k ≠ g) xs v := by
  obtain ⟨A, cap, cs, rfl, h1, h2, h3, h4⟩ := hr
  refine ⟨A, cap, cs, rfl, h1, h2, zHe h h3 (fun u hu B n c => ?_), zDd.1 (zHo h _ _ (zDd.2 h4))⟩
  cases xs with
  | nil => cases h4; cases hu
  | cons t ts =>
    obtain ⟨a, r, rfl, h9, _⟩ := h4
    obtain ⟨v, rfl, _⟩ := zB1.1 h9
    cases hu; intro e; cases e
theorem zHz {w : World} {S : Nat → Prop} {g : Nat} (hg : SlB w g) : (xs : List OpD) → (cs : List Value) → zAw opE w S xs cs → zAw opE w (fun k => S k ∧ k ≠ g) xs cs
  | [], cs, h => h
  | x :: xs, cs, h => by
    obtain ⟨a, r, h1, ⟨vr, vn, rfl, h2, h3, h4, h5, h6, h7, h8, h9⟩, h10⟩ := h
    exact ⟨_, r, h1, ⟨vr, vn, rfl, h2, h3, h4, h5, h6, h7, zM1 hg h8, trees_av hg h9⟩, zHz hg xs r h10⟩
theorem ops_av {w : World} {S : Nat → Prop} {g : Nat} {xs : List OpD} {v : Value} (h : SlB w g) (hr : zAa opE w S xs v) : zAa opE w (fun k => S k ∧ k ≠ g) xs v := by
  obtain ⟨A, cap, cs, rfl, h1, h2, h3, h4⟩ := hr
  refine ⟨A, cap, cs, rfl, h1, h2, zHe h h3 (fun u hu B n c => ?_), zHz h _ _ h4⟩
  cases xs with
  | nil => cases h4; cases hu
  | cons t ts =>
    obtain ⟨a, r, rfl, ⟨vr, vn, rfl, _⟩, _⟩ := h4
    cases hu; intro e; cases e
theorem slb5 {W:World} {g:Nat} {T:TypeId} {A B C D E:Option Addr} {a b c d e a' b' c' d' e':Nat} (h:zAc W g (.cells #[.slice A a a',.slice B b b',.slice C c c',.slice D d d',.slice E e e'] T)):SlB W g:=by
 intro j u hu
 rw [h.cell j] at hu
 rcases j with _ | _ | _ | _ | _ | j
 ·cases hu;exact ⟨_,_,_,rfl⟩
 ·cases hu;exact ⟨_,_,_,rfl⟩
 ·cases hu;exact ⟨_,_,_,rfl⟩
 ·cases hu;exact ⟨_,_,_,rfl⟩
 ·cases hu;exact ⟨_,_,_,rfl⟩
 ·simp at hu
end Go.Proofs.YtbjcioknfjofkaaGreat
namespace Go.Proofs.YtbjcioknfjofkaaGreat
open Go.RowKit Go.ChangeShapes Go.WideShapes Go.ChangeAt
section
variable {H:Type} {enc:TypeId × Value→H} {w:World} {base:Nat} {spare:Nat→Bool} {held:Bool}
theorem zKz {a : Addr} {u : Value} (h : w.cell? a = some u) : a = ⟨a.block, a.off, none⟩ ∧ a.block < w.heap.size := by
  have hlt := World.block_lt_of_cell? w a h
  refine ⟨?_, hlt⟩
  obtain ⟨b, o, sp⟩ := a
  cases sp with
  | none => rfl
  | some s =>
    exfalso
    unfold World.cell? at h
    split at h
    · simp at h
    · cases h
theorem reads_of {a:Addr} {rs:List Value} (h:∀ j u,rs[j]? = some u→w.cell? (a.add j) = some u):zBk w (Lt w.heap.size) (some a) rs:=by
 intro h0
 have h1:=h 0 _ (List.getElem?_eq_getElem h0)
 have e:a.add 0 = a:=by unfold Addr.add;simp
 rw [e] at h1
 obtain ⟨h2,h3⟩:=zKz h1
 refine ⟨a.block,a.off,by rw [← h2],h3,fun j u hu=>?_⟩
 have:=h j u hu
 rw [h2] at this
 unfold Addr.add at this
 split at this
 ·subst j;simpa using this
 ·exact this
theorem zI8 {α : Type} (E : Enc α) {t e : TypeId} (ht : Tryz.prog.underlying t = some (.slice e)) (hc : Tryz.prog.cellsOf e = E.size) {fuel : Nat} {cs : List Value} {x : DataW H × List MemPlace}
    (hE : ∀ m, m < fuel → ∀ cs x, DataW.trod enc Tryz.prog w base spare held m e cs = some x → ∃ a, E.R w (Lt w.heap.size) a cs)
    (h : DataW.trod enc Tryz.prog w base spare held fuel t cs = some x) : ∃ xs v, cs = [v] ∧ zAa E w (Lt w.heap.size) xs v := by
  rcases DataW.trod_slice ht h with ⟨rfl, _⟩ | ⟨a, len, cap, elems, rest, n, hf, rfl, _, _, hl, hm, hlen, hel, _, _⟩
  · exact ⟨[], _, rfl, zAa.nil_ 0 (by simp) none⟩
  · rw [hc] at hel
    have key : ∀ k, k ≤ len → ∃ (xs : List α) (rs : List Value), xs.length = k ∧ zAw E w (Lt w.heap.size) xs rs ∧ ∀ j u, rs[j]? = some u → w.cell? (a.add j) = some u := by
      intro k
      induction k with
      | zero => intro _; exact ⟨[], [], rfl, rfl, by simp⟩
      | succ k ih =>
        intro hk
        obtain ⟨xs, rs, h1, h2, h3⟩ := ih (by omega)
        have h4 := hel k (by omega)
        rw [List.getElem?_eq_getElem (by omega)] at h4
        obtain ⟨cs', h5, h6⟩ := Option.bind_eq_some_iff.1 h4
        obtain ⟨y, hy⟩ := hE n (by omega) _ _ h6
        obtain ⟨_, h7, h8⟩ := World.cells?_some h5
        refine ⟨xs ++ [y], rs ++ cs', by simp [h1], h2.append (zAw.single hy), fun j u hu => ?_⟩
        have hrl := h2.len
        rw [h1] at hrl
        by_cases hj : j < rs.length
        · rw [List.getElem?_append_left hj] at hu
          exact h3 j u hu
        · rw [List.getElem?_append_right (by omega)] at hu
          have hj2 : j - rs.length < E.size := by rw [← h7]; exact (List.getElem?_eq_some_iff.1 hu).1
          have := h8 (j - rs.length) hj2
          rw [zPb, show k * E.size + (j - rs.length) = j by omega] at this
          rw [this, hu]
    obtain ⟨xs, rs, h1, h2, h3⟩ := key len (Nat.le_refl _)
    subst h1
    exact ⟨xs, _, rfl, some a, cap, rs, rfl, hl, hm, reads_of h3, h2⟩
theorem zIo:Tryz.prog.cellsOf 3 = 1:=by kernel_rfl
theorem zQq:Tryz.prog.cellsOf 9 = 1:=by kernel_rfl
theorem zJw:Tryz.prog.cellsOf 31 = 1:=by kernel_rfl
theorem zNg:Tryz.prog.cellsOf 22 = 1:=by kernel_rfl
theorem zJv:Tryz.prog.cellsOf 24 = 4:=by kernel_rfl
theorem zJ9 {fuel:Nat} {cs:List Value} {x:DataW H × List MemPlace} (h:DataW.trod enc Tryz.prog w base spare held fuel 3 cs = some x):∃ n,cs = [.int .i64 n]∧In64 n:=by
 obtain ⟨n,rfl,_,hw⟩:=DataW.trod_int Tryz.underlying3 h
 exact ⟨n,rfl,bounds_i64 hw⟩
theorem read_str {fuel:Nat} {cs:List Value} {x:DataW H × List MemPlace} (h:DataW.trod enc Tryz.prog w base spare held fuel 9 cs = some x):∃ s:ByteArray,cs = [.string s]∧s.size≤maxLen:=by
 obtain ⟨s,rfl,_,hw⟩:=DataW.trod_string Tryz.underlying9 h
 exact ⟨s,rfl,hw⟩
theorem zK9 {fuel:Nat} {cs:List Value} {x:DataW H × List MemPlace} (h:DataW.trod enc Tryz.prog w base spare held fuel 31 cs = some x):∃ xs v,cs = [v]∧zAh w (Lt w.heap.size) xs v :=
 zI8 intE Tryz.underlying31 zIo (fun m _ cs x h=>by obtain ⟨n,h1,h2⟩:=zJ9 h;exact ⟨n,h1,h2⟩) h
theorem zGj {α:Type} {l:List α} {i:Nat} {o:Option α} (h:o = l[i]?) (hi:i < l.length):∃ x,o = some x:=⟨l[i],by rw [h,List.getElem?_eq_getElem hi]⟩
theorem zPs (fuel : Nat) : ∀ (cs : List Value) (x : DataW H × List MemPlace), DataW.trod enc Tryz.prog w base spare held fuel 24 cs = some x → ∃ t, zDi w (Lt w.heap.size) t cs := by
  induction fuel using Nat.strongRecOn with
  | ind fuel ih =>
  intro cs x h
  obtain ⟨xs, n, hfu, hx, hlen, hxl, hf⟩ := DataW.trod_struct Tryz.underlying24 h
  rw [zJv] at hlen
  match cs, hlen with
  | [c0, c1, c2, c3], _ =>
    have g0 : DataW.trod enc Tryz.prog w base spare held n 3 (([c0, c1, c2, c3].drop 0).take (Tryz.prog.cellsOf 3)) = xs[0]? := hf 0 _ rfl
    rw [zIo] at g0
    have f0 : DataW.trod enc Tryz.prog w base spare held n 3 [c0] = xs[0]? := g0
    have g1 : DataW.trod enc Tryz.prog w base spare held n 9 (([c0, c1, c2, c3].drop 1).take (Tryz.prog.cellsOf 9)) = xs[1]? := hf 1 _ rfl
    rw [zQq] at g1
    have f1 : DataW.trod enc Tryz.prog w base spare held n 9 [c1] = xs[1]? := g1
    have g2 : DataW.trod enc Tryz.prog w base spare held n 3 (([c0, c1, c2, c3].drop 2).take (Tryz.prog.cellsOf 3)) = xs[2]? := hf 2 _ rfl
    rw [zIo] at g2
    have f2 : DataW.trod enc Tryz.prog w base spare held n 3 [c2] = xs[2]? := g2
    have g3 : DataW.trod enc Tryz.prog w base spare held n 22 (([c0, c1, c2, c3].drop 3).take (Tryz.prog.cellsOf 22)) = xs[3]? := hf 3 _ rfl
    rw [zNg] at g3
    have f3 : DataW.trod enc Tryz.prog w base spare held n 22 [c3] = xs[3]? := g3
    have hxl' : xs.length = 4 := hxl
    obtain ⟨y0, e0⟩ := zGj f0 (by omega)
    obtain ⟨y1, e1⟩ := zGj f1 (by omega)
    obtain ⟨y2, e2⟩ := zGj f2 (by omega)
    obtain ⟨y3, e3⟩ := zGj f3 (by omega)
    obtain ⟨k, q0, hk⟩ := zJ9 e0
    obtain ⟨s, q1, hs⟩ := read_str e1
    obtain ⟨c, q2, hc⟩ := zJ9 e2
    obtain ⟨ts, v, q3, hts⟩ := zI8 zAb Tryz.underlying22 zJv (fun m hm cs x h => ih m (by omega) cs x h) e3
    simp only [List.cons.injEq, and_true] at q0 q1 q2 q3
    subst q0 q1 q2 q3
    exact ⟨.mk k s c ts, zB1.2 ⟨_, rfl, hk, hc, hs, hts⟩⟩
theorem law_post {f : Func} {s : ChangeSpec} {W W' : World} {args : Array Value} {ds gs : List (DataW H)} {before : List MemPlace}
    (hvars : s.vars = []) (hres : f.resultTypes = #[4]) (hspec : s.fn H ds = { results := [.lit (.bool true)], args := ds })
    (hl : laidOutB Tryz.prog = true) (hr : ∀ t ∈ f.params.toList, Tryz.prog.readableRec t = true ∧ t < Tryz.prog.types.size)
    (hW : DataW.Whole enc Tryz.prog f.params.toList s.vars false W args.toList ds gs before) (hb : Below W.heap.size W W') :
    s.post enc Tryz.prog f false true false false W args (.bool true) W' := by
  have hlt : ∀ p ∈ before, p.block < W.heap.size := fun p hp => hW.lt p hp
  have hold : ∀ p ∈ before, (fun b => decide (b < W.heap.size)) p.block = true := fun p hp => by simpa using hlt p hp
  have hW0 := hW
  obtain ⟨p, q, hA, hV, rfl, hz, hn⟩ := hW
  rw [hvars] at hV
  obtain ⟨rfl, rfl⟩ := trodVars_none hV
  have carry : ∀ (ts : List TypeId) (vs : List Value) (ds : List (DataW H)) (ps : List MemPlace), (∀ t ∈ ts, Tryz.prog.readableRec t = true ∧ t < Tryz.prog.types.size) → (∀ x ∈ ps, x ∈ p ++ []) → DataW.TrodAll enc Tryz.prog W 0 (fun _ => true) true ts vs ds ps →
      ∀ sp : Nat → Bool, (∀ x ∈ p ++ [], sp x.block = true) → DataW.TrodAll enc Tryz.prog W' 0 sp true ts vs ds ps := by
    intro ts
    induction ts with
    | nil =>
      intro vs ds ps _ _ h sp _
      cases vs <;> cases ds <;> simp [DataW.TrodAll] at h
      subst h
      exact trodAll_mk0
    | cons t ts ih =>
      intro vs ds ps hr' hin h sp hsp
      obtain ⟨v, vs', d, ds', p', q', rfl, rfl, rfl, h1, h2⟩ := trodAll_cons h
      refine ⟨p', q', ?_, ih vs' ds' q' (fun t' ht' => hr' t' (by simp [ht'])) (fun x hx => hin x (by simp [hx])) h2 sp hsp, rfl⟩
      exact WideElems.Trod_stays hl (hr' t (by simp)).1 (hr' t (by simp)).2 h1 (fun x hx => hb.same (hlt x (hin x (by simp [hx])))) (fun x hx => hsp x (hin x (by simp [hx])))
  have hargs := carry f.params.toList args.toList ds p hr (fun x hx => by simpa using hx) hA
  have hresd : ∀ (b : Nat) (sp : Nat → Bool) (hd : Bool), DataW.TrodAll enc Tryz.prog W' b sp hd f.resultTypes.toList ((Value.bool true).resultList f.resultTypes.size) (s.fn H (ds ++ [])).results [] := by
    intro b sp hd
    rw [List.append_nil, hspec, hres]
    exact ⟨[], [], shut_bool Tryz.underlying4 true, trodAll_mk0, rfl⟩
  have hok : ∀ (j : Nat) (t : TypeId) (r : Value), f.resultTypes[j]? = some t → ((Value.bool true).resultList f.resultTypes.size)[j]? = some r → Value.okWide Tryz.prog W' .any 0 t r :=
    ok_one hres rfl (okWide_bool_mk Tryz.underlying4 _)
  have hargs' : ∀ sp : Nat → Bool, (∀ x ∈ p ++ [], sp x.block = true) → DataW.TrodAll enc Tryz.prog W' 0 sp true f.params.toList args.toList (s.fn H (ds ++ [])).args p := by
    intro sp hsp
    rw [List.append_nil, hspec]
    exact hargs sp hsp
  have hvars' : ∀ sp : Nat → Bool, (∀ x ∈ p ++ [], sp x.block = true) → DataW.TrodVars enc Tryz.prog W' sp s.vars (s.fn H (ds ++ [])).vars [] := by
    intro sp _
    rw [List.append_nil, hspec, hvars]
    rfl
  refine ⟨ds, [], p ++ [], [], p, [], hW0, hresd _ _ _, hargs' _ hold, hvars' _ hold, World.keptBut_mono (fun x hx => ⟨hx, by simpa using hx⟩) (hb.frame (· ∈ p ++ [])), fun _ => ?_⟩
  refine ⟨hok, _, _, ([] ++ p) ++ [], ⟨[] ++ p, [], trodAll_append (hargs' _ (fun _ _ => rfl)) (hresd _ _ _), hvars' _ (fun _ _ => rfl), rfl, ?_, ?_⟩, ?_⟩
  · intro b off hp
    have hin : MemPlace.cell b off ∈ p ++ [] := by simpa using hp
    rw [hb.frozen (hlt _ hin)]
    exact hz b off hin
  · intro ha; cases ha
  · intro x hx _
    simpa using hx
end
end Go.Proofs.YtbjcioknfjofkaaGreat
