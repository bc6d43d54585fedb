/- Texts put together. -/
import Derived.Test.YtbjcioknfjofkaaGreatQb55496f77f
import Derived.Test.YtbjcioknfjofkaaGreatQ5f8487fc8c
import Derived.Test.YtbjcioknfjofkaaGreatQ075cf82eb7
import Derived.Test.YtbjcioknfjofkaaGreatQ8c13868fc1
set_option linter.unusedVariables false
set_option linter.unusedSimpArgs false
set_option maxRecDepth 100000
namespace Go.Proofs.YtbjcioknfjofkaaGreat
open Go.RowKit
abbrev chC (op:OpD) (vr vn vi:Value):Array Value:=#[.int .i64 op.kind,vr,.int .i64 op.at_,.int .i64 op.n,vn,.int .i64 op.slot,.string op.old,.string op.text,vi]
theorem rowsE3 {α:Type} {E:Enc α} {w w':World} {S:Nat→Prop} {a b c:List α} {va vb vc:Value} (ha:zAa E w S a va) (hb:zAa E w S b vb) (hc:zAa E w S c vc) (e:TypeId) (he:w' = w.alloc (.cells #[va,vb,vc] e)) (hS:∀ k,S k→k < w.heap.size) (g:Nat) (hg:g = w.heap.size) :
  zAa (zC0 E) w' (fun q=>S q∨q = g) [a,b,c] (.slice (some ⟨g,0,none⟩) 3 3):=by
 subst he hg
 have hk:Same S w (w.alloc (.cells #[va,vb,vc] e)):=fun p hp=>World.cell?_alloc_lt w _ p (hS _ hp)
 have hm:∀ k,S k→S k∨k = w.heap.size:=fun k h=>.inl h
 refine ⟨_,_,[va,vb,vc],rfl,Nat.le_refl _,by simp [maxLen],fun _=>⟨w.heap.size,0,rfl,.inr rfl,fun j u hu=>?_⟩,?_⟩
 ·rw [Nat.zero_add,World.cell?_alloc_new];simpa using hu
 ·exact ⟨[va],_,rfl,⟨va,rfl,ha.keep hk hm⟩,[vb],_,rfl,⟨vb,rfl,hb.keep hk hm⟩,[vc],_,rfl,⟨vc,rfl,hc.keep hk hm⟩,rfl⟩
theorem zEb.wide {S S':Nat→Prop} {w W:World} {L:List Tree} {e:Ending} {w':World} (h:zEb S' W L e w') (hS:∀ q,S' q→S q∨w.heap.size≤q∧q < W.heap.size) (hb:Below w.heap.size w W):zEb S w L e w':=by
 obtain ⟨v,h1,h2,h3⟩:=h
 refine ⟨v,h1,h2.keep (fun _ _=>rfl) (fun q hq=>?_),hb.trans (h3.mono hb.size)⟩
 rcases hq with hq | hq
 ·rcases hS q hq with h | h
  ·exact .inl h
  ·exact .inr ⟨h.1,Nat.lt_of_lt_of_le h.2 h3.size⟩
 ·exact .inr ⟨Nat.le_trans hb.size hq.1,hq.2⟩
def zFs (l:Nat) (op:OpD):Int:=if op.at_ < 0∨(l:Int) < op.at_∨(l:Int) - op.at_ < zCv op then 2 else 0
set_option maxHeartbeats 4000000 in
theorem zOx (op:OpD) (l lr:Nat) (Ar An A:Option Addr) (cr cn cap:Nat) (w:World) (hl:l≤1000000) :
  Calls Tryz.prog 124 #[.agg (chC op (.slice Ar lr cr) (.slice An op.nodes.length cn) (.slice A l cap))] w fun e w'=>e = .returned (.int .i64 (zFs l op))∧Below w.heap.size w w':=by
 have hb:=blA w (Obj.cells (chC op (.slice Ar lr cr) (.slice An op.nodes.length cn) (.slice A l cap)) 125)
 obtain ⟨kind,row,at_,n,nodes,slot,old,text⟩:=op
 simp only [chC,zFs,zCv] at *
 generalize nodes.length = nl at *
 have hkc:kind = 1∨kind = 2∨kind = 3∨(kind≠1∧kind≠2∧kind≠3):=by omega
 obtain ⟨nd,hnd⟩:∃ nd:Int,nd = (if kind = 1 then 0 else if kind = 2 then (nl:Int) else if kind = 3 then n else 1):=⟨_,rfl⟩
 rw [← hnd]
 have w1:0≤at_→at_≤l→IntKind.i64.wrap ((l:Int) - at_) = (l:Int) - at_:=fun h1 h2=>IntWalk.i64_in _ (by omega)
 have hd:(decide (at_ < 0) = true)∨(decide (at_ < 0) = false∧decide ((l:Int) < at_) = true)∨(decide (at_ < 0) = false∧decide ((l:Int) < at_) = false∧decide ((l:Int) - at_ < nd) = true)∨(decide (at_ < 0) = false∧decide ((l:Int) < at_) = false∧decide ((l:Int) - at_ < nd) = false):=by
  cases decide (at_ < 0) <;> cases decide ((l:Int) < at_) <;> cases decide ((l:Int) - at_ < nd) <;> simp
 obtain ⟨R,hR⟩:∃ R:Int,R = if at_ < 0∨(l:Int) < at_∨(l:Int) - at_ < nd then 2 else 0:=⟨_,rfl⟩
 rw [← hR]
 rcases hd with i0 | ⟨i0,i1⟩ | ⟨i0,i1,i2⟩ | ⟨i0,i1,i2⟩
 ·obtain rfl:R = 2:=by rw [hR];simp at i0;exact if_pos (by omega)
  clear hR
  rcases hkc with rfl | rfl | rfl | ⟨j1,j2,j3⟩
  case inr.inr.inr =>
   have j1:(kind == 1) = false:=by simpa using j1
   have j2:(kind == 2) = false:=by simpa using j2
   have j3:(kind == 3) = false:=by simpa using j3
   clear hnd
   go_enter Tryz.func124,Tryz.ntmps124
   go_wp2_with fail
   go_ret
   exact ⟨rfl,hb⟩
  all_goals
   clear hnd
   go_enter Tryz.func124,Tryz.ntmps124
   go_wp2_with fail
   go_ret
   exact ⟨rfl,hb⟩
 ·obtain rfl:R = 2:=by rw [hR];simp at i1;exact if_pos (by omega)
  clear hR
  rcases hkc with rfl | rfl | rfl | ⟨j1,j2,j3⟩
  case inr.inr.inr =>
   have j1:(kind == 1) = false:=by simpa using j1
   have j2:(kind == 2) = false:=by simpa using j2
   have j3:(kind == 3) = false:=by simpa using j3
   clear hnd
   go_enter Tryz.func124,Tryz.ntmps124
   go_wp2_with fail
   go_ret
   exact ⟨rfl,hb⟩
  all_goals
   clear hnd
   go_enter Tryz.func124,Tryz.ntmps124
   go_wp2_with fail
   go_ret
   exact ⟨rfl,hb⟩
 ·obtain rfl:R = 2:=by rw [hR];simp at i2;exact if_pos (by omega)
  clear hR
  have w1':=w1 (by simpa using i0) (by simpa using i1)
  rcases hkc with rfl | rfl | rfl | ⟨j1,j2,j3⟩
  case inr.inr.inr =>
   obtain rfl:nd = 1:=by rw [hnd];simp [j1,j2,j3]
   have j1:(kind == 1) = false:=by simpa using j1
   have j2:(kind == 2) = false:=by simpa using j2
   have j3:(kind == 3) = false:=by simpa using j3
   clear hnd w1
   go_enter Tryz.func124,Tryz.ntmps124
   go_wp2_with fail
   go_ret
   exact ⟨rfl,hb⟩
  all_goals
   simp at hnd
   subst hnd
   clear w1
   go_enter Tryz.func124,Tryz.ntmps124
   go_wp2_with fail
   go_ret
   exact ⟨rfl,hb⟩
 ·obtain rfl:R = 0:=by rw [hR];simp at i0 i1 i2;exact if_neg (by omega)
  clear hR
  have w1':=w1 (by simpa using i0) (by simpa using i1)
  rcases hkc with rfl | rfl | rfl | ⟨j1,j2,j3⟩
  case inr.inr.inr =>
   obtain rfl:nd = 1:=by rw [hnd];simp [j1,j2,j3]
   have j1:(kind == 1) = false:=by simpa using j1
   have j2:(kind == 2) = false:=by simpa using j2
   have j3:(kind == 3) = false:=by simpa using j3
   clear hnd w1
   go_enter Tryz.func124,Tryz.ntmps124
   go_wp2_with fail
   go_ret
   exact ⟨rfl,hb⟩
  all_goals
   simp at hnd
   subst hnd
   clear w1
   go_enter Tryz.func124,Tryz.ntmps124
   go_wp2_with fail
   go_ret
   exact ⟨rfl,hb⟩
set_option maxHeartbeats 2000000 in
theorem zGa (op:OpD) (l nodes:List Tree) (n:Int) (a b lr:Nat) (Ar A B:Option Addr) (vn:Value) (cr cap cb:Nat) (w:World) (S:Nat→Prop) (hS:∀ q,S q→q < w.heap.size) (hl:zAa zAb w S l (.slice A l.length cap)) (hn:zAa zAb w S nodes (.slice B nodes.length cb))
  (ha:op.at_ = a) (hb:op.at_ + n = b) (hal:a≤l.length) (hbl:b≤l.length) (hll:l.length + nodes.length≤500000) :
  Calls Tryz.prog 165 #[.agg (chC op (.slice Ar lr cr) vn (.slice A l.length cap)),.int .i64 n,.slice B nodes.length cb] w (zEb S w (zAv l a b nodes)):=by
 obtain ⟨kind,row,at_,n0,nds,slot,old,text⟩:=op
 simp only [chC] at *
 have hb0:=blA w (Obj.cells (chC ⟨kind,row,at_,n0,nds,slot,old,text⟩ (.slice Ar lr cr) vn (.slice A l.length cap)) 125)
 have hn1:l.length≤cap:=by obtain ⟨_,_,_,hq,h1,_⟩:=hl;cases hq;exact h1
 obtain ⟨A1,hs1,hc1⟩:=zL3 zAb Tryz.underlying22 zCp A l.length cap at_ a ha (by omega) hn1
 obtain ⟨A2,hs2,hc2⟩:=zNc zAb Tryz.underlying22 zCp A l.length cap (at_ + n) b hb (by omega)
 have v1:IntKind.i64.wrap (at_ + n) = at_ + n:=IntWalk.i64_in _ (by omega)
 have e1:(l.take a).length = a:=by simp;omega
 have e2:(l.drop b).length = l.length - b:=by simp
 have HCC:Hid (∀ W,Below w.heap.size w W→Calls Tryz.prog 182 #[.slice (some ⟨W.heap.size,0,none⟩) 3 3] (W.alloc (.cells #[.slice A1 a cap,.slice B nodes.length cb,.slice A2 (l.length - b) (cap - b)] 22)) (fun e w'=>zEb S w (zAv l a b nodes) e w'∧Below (W.alloc (.cells #[.slice A1 a cap,.slice B nodes.length cb,.slice A2 (l.length - b) (cap - b)] 22)).heap.size (W.alloc (.cells #[.slice A1 a cap,.slice B nodes.length cb,.slice A2 (l.length - b) (cap - b)] 22)) w')):=fun W hW=>by
  have hSW:∀ q,S q→q < W.heap.size:=fun q hq=>Nat.lt_of_lt_of_le (hS q hq) hW.size
  have h:=zNd [l.take a,nodes,l.drop b] (W.alloc (.cells #[.slice A1 a cap,.slice B nodes.length cb,.slice A2 (l.length - b) (cap - b)] 22)) (.slice (some ⟨W.heap.size,0,none⟩) 3 3) (fun q=>S q∨q = W.heap.size) (fun q hq=>by
    rcases hq with hq | rfl
    ·exact Nat.lt_of_lt_of_le (hSW q hq) (by simp)
    ·simp)
   (rowsE3 (S:=S) (by have:=hc1 W _ l (zBg hl hS hW);exact this) (zBg hn hS hW) (hc2 W _ l (zBg hl hS hW)) _ rfl hSW _ rfl) (by simp;omega)
  have e3:[l.take a,nodes,l.drop b].flatten = zAv l a b nodes:=by simp [zAv]
  rw [e3] at h
  exact h.mono fun e w' h=>⟨h.wide (fun q hq=>by
   rcases hq with hq | rfl
   ·exact .inl hq
   ·exact .inr ⟨hW.size,by simp⟩) (hW.trans ((blA W _).mono hW.size)),by obtain ⟨_,_,_,h⟩:=h;exact h⟩
 have HB0:=hid hb0
 simp only [chC] at hb0 HB0
 generalize hW0:(w.alloc (.cells #[.int .i64 kind,.slice Ar lr cr,.int .i64 at_,.int .i64 n0,vn,.int .i64 slot,.string old,.string text,.slice A l.length cap] 125)) = W0 at *
 have m2:W0.cell? ⟨w.heap.size,2,none⟩ = some (.int .i64 at_):=by rw [← hW0];exact newC _ _ _ _ _ rfl
 have m8:W0.cell? ⟨w.heap.size,8,none⟩ = some (.slice A l.length cap):=by rw [← hW0];exact newC _ _ _ _ _ rfl
 have KM:Hid (∀ W,Below W0.heap.size W0 W→W.cell? ⟨w.heap.size,2,none⟩ = some (.int .i64 at_)∧W.cell? ⟨w.heap.size,8,none⟩ = some (.slice A l.length cap)):=fun W hW=>⟨(hW.cell (p:=⟨w.heap.size,2,none⟩) (zBd m2)).trans m2,(hW.cell (p:=⟨w.heap.size,8,none⟩) (zBd m8)).trans m8⟩
 generalize zAv l a b nodes = L at *
 clear hl hn hc1 hc2 e1 e2 ha hb hal hbl hll hn1
 go_enter Tryz.func165,Tryz.ntmps165
 go_upto_region 1 with fail
 try rw [hW0]
 clear hW0 hb0
 go_wp2_with fail
 go_region_held3 (fun w'=>w'.cell? ⟨w.heap.size,2,none⟩ = some (.int .i64 at_)∧w'.cell? ⟨w.heap.size,8,none⟩ = some (.slice A l.length cap)) (go_keep) (first
  | (go_at_call 182;refine (HCC.out _ (zC2 HB0.out)).mono ?_;rintro e w5 ⟨⟨v5,rfl,hr5,hb5⟩,hb5'⟩;have HR5:=hid hr5;have HB5:=hid hb5;obtain ⟨n2,n8⟩:=KM.out _ (zAq (zAp (zC2 (Below.refl _ W0)) _) hb5');clear hr5 hb5 hb5'))
 go_wp2_with fail
 go_ret
 exact ⟨_,rfl,HR5.out,HB5.out⟩
theorem litS {w:World} {S:Nat→Prop} (hS:∀ q,S q→q < w.heap.size) {k:Int} {x:ByteArray} {c:Int} {ts:List Tree} {v:Value} {T:TypeId} (hok:zAu (.mk k x c ts)) (h:zAa zAb w S ts v) :
  zAa zAb (w.alloc (Obj.cells #[.int .i64 k,.string x,.int .i64 c,v] T)) (fun q=>S q∨q = w.heap.size) [.mk k x c ts] (.slice (some ⟨w.heap.size,0,none⟩) 1 1) :=
 (zEv (W:=w.alloc (Obj.cells #[.int .i64 k,.string x,.int .i64 c,v] T)) (S:=S) (b:=w.heap.size) hok (h.keep (fun _ _=>rfl) (fun _ h=>.inl h)) hS (Nat.le_refl _) (Below.refl _ _) rfl).keep (fun _ _=>rfl) (fun q hq=>by
  rcases hq with hq | hq
  ·exact .inl hq
  ·right;have h1:=hq.1;have h2:=hq.2;simp at h2;omega)
theorem nilP {S:Nat→Prop} {w w':World} (hb:Below w.heap.size w w') (r:Int):zCa S w ([],r) (.returned (.tuple #[.slice none 0 0,.int .i64 r])) w':=⟨_,rfl,zAa.nil_ 0 (Nat.zero_le _) none,hb⟩
theorem zEb.change {S:Nat→Prop} {w W w':World} {L:List Tree} {v:Value} (hb:Below w.heap.size w W) (h:zAa zAb w' (fun q=>S q∨W.heap.size≤q∧q < w'.heap.size) L v) (h2:Below W.heap.size W w'):zCa S w (L,0) (.returned (.tuple #[v,.int .i64 0])) w':=by
 obtain ⟨v',e,h3,h4⟩:=zEb.wide (S:=S) (w:=w) (⟨v,rfl,h,h2⟩:zEb S W L (.returned v) w') (fun q hq=>.inl hq) hb
 cases e
 exact ⟨_,rfl,h3,h4⟩
def ChBox (W:World) (b:Nat) (op:OpD) (vr vn vi:Value):Prop:=zDa W b op vr vn∧W.cell? ⟨b,8,none⟩ = some vi
theorem zO6 (op:OpD) (vr vn vi:Value) (w:World):∃ W0,w.alloc (.cells (chC op vr vn vi) 125) = W0∧W0.heap.size = w.heap.size + 1∧∀ W,Below W0.heap.size W0 W→ChBox W w.heap.size op vr vn vi∧Below w.heap.size w W:=by
 refine ⟨_,rfl,by simp,fun W hW=>⟨⟨?_,?_⟩,(blA w _).trans (hW.mono (by simp))⟩⟩
 ·refine ⟨?_,?_,?_,?_,?_,?_,?_,?_⟩ <;> exact (hW.cell (p:=⟨w.heap.size,_,none⟩) (by simp)).trans (by rw [World.cell?_alloc_new];rfl)
 ·exact (hW.cell (p:=⟨w.heap.size,_,none⟩) (by simp)).trans (by rw [World.cell?_alloc_new];rfl)
theorem slLe {w:World} {S:Nat→Prop} {ts:List Tree} {A:Option Addr} {n c:Nat} (h:zAa zAb w S ts (.slice A n c)):n≤c:=by obtain ⟨_,_,_,hq,h1,_⟩:=h;cases hq;exact h1
set_option maxHeartbeats 1000000 in
theorem zM7 (op:OpD) (l:List Tree) (a lr:Nat) (Ar An A:Option Addr) (cr cn cap:Nat) (w:World) (S:Nat→Prop) (hS:∀ q,S q→q < w.heap.size) (hl:zAa zAb w S l (.slice A l.length cap)) (hn:zAa zAb w S op.nodes (.slice An op.nodes.length cn)) (ha:op.at_ = a) (hal:a≤l.length) (hll:l.length + op.nodes.length≤500000) :
  Calls Tryz.prog 125 #[.agg (chC op (.slice Ar lr cr) (.slice An op.nodes.length cn) (.slice A l.length cap))] w (zCa S w (zAv l a a op.nodes,0)):=by
 obtain ⟨W0,hW0,hz,KB⟩:=zO6 op (.slice Ar lr cr) (.slice An op.nodes.length cn) (.slice A l.length cap) w
 obtain ⟨⟨⟨m0,m1,m2,m3,m4,m5,m6,m7⟩,m8⟩,hB0⟩:=KB W0 (Below.refl _ _)
 have HJ:=hid (zGa op l op.nodes 0 a a lr Ar A An (.slice An op.nodes.length cn) cr cap cn W0 S (fun q hq=>Nat.lt_of_lt_of_le (hS q hq) hB0.size) (zBg hl hS hB0) (zBg hn hS hB0) ha (by omega) hal hal hll)
 have HB0:=hid hB0
 obtain ⟨kind,row,at_,n,nodes,slot,old,text⟩:=op
 simp only [chC] at *
 clear hl hn ha hal hll KB hB0 hS
 go_enter Tryz.func125,Tryz.ntmps125
 go_wp2_with fail
 refine HJ.out.mono ?_
 rintro e w1 ⟨v1,rfl,hr1,hb1⟩
 have HR1:=hid hr1
 have HB1:=hid hb1
 clear hr1 hb1
 go_wp2_with fail
 refine bodyPost_ret (v:=.tuple #[v1,.int .i64 0]) (by simp [results,Tryz.results125,go_sem]) rfl ?_
 exact zEb.change HB0.out HR1.out HB1.out
set_option maxHeartbeats 4000000 in
theorem zM6 (op:OpD) (l:List Tree) (a lr:Nat) (Ar An A:Option Addr) (cr cn cap:Nat) (w:World) (S:Nat→Prop) (hS:∀ q,S q→q < w.heap.size) (hl:zAa zAb w S l (.slice A l.length cap)) (hn:zAa zAb w S op.nodes (.slice An op.nodes.length cn)) (ha:op.at_ = a) (hal:a + op.nodes.length≤l.length) (hll:l.length + op.nodes.length≤500000) :
  Calls Tryz.prog 126 #[.agg (chC op (.slice Ar lr cr) (.slice An op.nodes.length cn) (.slice A l.length cap))] w (zCa S w (if zJ4 ((l.take (a + op.nodes.length)).drop a) op.nodes = true then (zAv l a (a + op.nodes.length) [],0) else ([],7))):=by
 obtain ⟨W0,hW0,hz,KB⟩:=zO6 op (.slice Ar lr cr) (.slice An op.nodes.length cn) (.slice A l.length cap) w
 have KBH:=hid KB
 obtain ⟨⟨⟨m0,m1,m2,m3,m4,m5,m6,m7⟩,m8⟩,hB0⟩:=KB W0 (Below.refl _ _)
 have HB0:=hid hB0
 have hn1:=slLe hl
 obtain ⟨A1,hsl,hcut⟩:=zIj zAb Tryz.underlying22 zCp A l.length cap op.at_ (op.at_ + (op.nodes.length:Int)) a (a + op.nodes.length) ha (by omega) (by omega) (by omega) hn1
 have hlen:((l.take (a + op.nodes.length)).drop a).length = a + op.nodes.length - a:=by simp;omega
 have w2:IntKind.i64.wrap (op.at_ + (op.nodes.length:Int)) = op.at_ + (op.nodes.length:Int):=IntWalk.i64_in _ (by omega)
 have CE:Hid (∀ W,Below w.heap.size w W→Calls Tryz.prog 166 #[.slice A1 (a + op.nodes.length - a) (cap - a),.slice An op.nodes.length cn,.func (.func 167) #[] #[]] W (EqC W (zJ4 ((l.take (a + op.nodes.length)).drop a) op.nodes))):=fun W hW=>by
  have h:=eqf_any ((l.take (a + op.nodes.length)).drop a) op.nodes W A1 An (cap - a) cn (by rw [hlen];exact hcut _ _ _ (zFl hl hS hW)) (zFl hn hS hW)
  change Calls _ _ _ _ (EqC W (zJ4 _ _)) at h
  rw [hlen] at h
  exact h
 have HJ:Hid (∀ W,Below w.heap.size w W→Calls Tryz.prog 165 #[.agg (chC op (.slice Ar lr cr) (.slice An op.nodes.length cn) (.slice A l.length cap)),.int .i64 (op.nodes.length:Int),.slice none 0 0] W (zEb S W (zAv l a (a + op.nodes.length) []))):=fun W hW =>
  zGa op l [] op.nodes.length a (a + op.nodes.length) lr Ar A none (.slice An op.nodes.length cn) cr cap 0 W S (fun q hq=>Nat.lt_of_lt_of_le (hS q hq) hW.size) (zBg hl hS hW) (zAa.nil_ 0 (Nat.zero_le _) none) ha (by omega) (by omega) hal (by simp;omega)
 obtain ⟨kind,row,at_,n,nodes,slot,old,text⟩:=op
 simp only [chC] at *
 generalize zJ4 ((l.take (a + nodes.length)).drop a) nodes = bS at *
 generalize zAv l a (a + nodes.length) [] = L at *
 generalize a + nodes.length - a = n2 at *
 clear hl hn ha hal hll KB hB0 hcut hlen hn1 hS
 cases bS
 all_goals
  go_enter Tryz.func126,Tryz.ntmps126
  go_wp2_with fail
  go_region_held3 (fun w'=>w'.cell? ⟨w.heap.size,2,none⟩ = some (.int .i64 at_)∧w'.cell? ⟨w.heap.size,4,none⟩ = some (.slice An nodes.length cn)∧w'.cell? ⟨w.heap.size,8,none⟩ = some (.slice A l.length cap)) (go_keep) (first
   | (go_at_call 166;refine (CE.out _ (zC2 HB0.out)).mono ?_;rintro e w5 ⟨rfl,hb5⟩;have HB5:=hid (zC7 hb5);clear hb5;obtain ⟨⟨⟨k0,k1,k2,k3,k4,k5,k6,k7⟩,k8⟩,hbw⟩:=KBH.out w5 HB5.out;have HK5:=hid hbw;clear hbw))
  go_wp2_with fail
 ·refine bodyPost_ret (v:=.tuple #[.slice none 0 0,.int .i64 7]) (by simp [results,Tryz.results126,go_sem]) rfl ?_
  exact nilP HK5.out _
 ·refine (HJ.out _ HK5.out).mono ?_
  rintro e w6 ⟨v6,rfl,hr6,hb6⟩
  have HR6:=hid hr6
  have HB6:=hid hb6
  clear hr6 hb6
  go_wp2_with fail
  refine bodyPost_ret (v:=.tuple #[v6,.int .i64 0]) (by simp [results,Tryz.results126,go_sem]) rfl ?_
  exact zEb.change HK5.out HR6.out HB6.out
end Go.Proofs.YtbjcioknfjofkaaGreat
