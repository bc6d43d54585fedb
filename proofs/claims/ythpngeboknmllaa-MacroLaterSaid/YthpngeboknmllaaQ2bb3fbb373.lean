/- Texts put together. -/
import Derived.Test.YthpngeboknmllaaQf30ca507da
import Derived.Test.YthpngeboknmllaaQ27d4d771cb
set_option linter.unusedVariables false
set_option linter.unusedSimpArgs false
set_option maxRecDepth 100000
namespace Go.Proofs.Ythpngeboknmllaa
open Go.RowKit
structure MacD where
 name:ByteArray
 params:Int
 tree:Tree
def macE:Enc MacD where
 size:=6
 R w S d cs:=∃ v,cs = [.string d.name,.int .i64 d.params,.int .i64 d.tree.kind,.string d.tree.text,.int .i64 d.tree.cols,v]∧d.name.size≤maxLen∧In64 d.params∧NodeOk d.tree∧SliceR treeE w S d.tree.kids v
 pos:=by omega
 len:=by rintro _ _ _ _ ⟨_,rfl,_⟩;rfl
 one:=by
  rintro _ _ _ _ ⟨_,rfl,_,_,_,⟨A,cap,cs,rfl,_⟩⟩
  simp [Value.oneCell']
 keep:=by
  rintro _ _ _ _ _ _ ⟨v,rfl,h1,h2,h3,h4⟩ hk hB
  exact ⟨v,rfl,h1,h2,h3,h4.keep hk hB⟩
theorem macInfo:InfoE 33 (.agg #[.string ⟨#[]⟩,.int .i64 0,.int .i64 0,.string ⟨#[]⟩,.int .i64 0,.slice none 0 0]) 6 80:=by
 have h:(Try.prog.info? 33).map (fun i=>(i.zero,i.size,i.bytes)) = some (some (.agg #[.string ⟨#[]⟩,.int .i64 0,.int .i64 0,.string ⟨#[]⟩,.int .i64 0,.slice none 0 0]),6,80):=by kernel_rfl
 obtain ⟨i,h1,h2,h3,h4⟩:=info_parts h
 exact ⟨i,h1,h2,h3,h4⟩
theorem mac_at {w : World} {S : Nat → Prop} {xs : List MacD} {A : Option Addr} {cs : List Value} (h3 : Reads w S A cs) (h4 : ListR macE w S xs cs) {k : Nat} (hk : k < xs.length) :
    ∃ g o A' cap', A = some ⟨g, o, none⟩ ∧ S g ∧ w.cell? ⟨g, o + k * 6, none⟩ = some (.string xs[k].name) ∧ w.cell? ⟨g, o + k * 6 + 1, none⟩ = some (.int .i64 xs[k].params) ∧ w.cell? ⟨g, o + k * 6 + 2, none⟩ = some (.int .i64 xs[k].tree.kind) ∧
      w.cell? ⟨g, o + k * 6 + 3, none⟩ = some (.string xs[k].tree.text) ∧ w.cell? ⟨g, o + k * 6 + 4, none⟩ = some (.int .i64 xs[k].tree.cols) ∧ w.cell? ⟨g, o + k * 6 + 5, none⟩ = some (.slice A' xs[k].tree.kids.length cap') ∧
      xs[k].name.size ≤ maxLen ∧ In64 xs[k].params ∧ NodeOk xs[k].tree ∧ SliceR treeE w S xs[k].tree.kids (.slice A' xs[k].tree.kids.length cap') := by
  obtain ⟨g, o, c, e, hb, ⟨v, rfl, h1, h2, h5, h6⟩, hc⟩ := slice_at h3 h4 hk
  obtain ⟨A', cap', rfl⟩ : ∃ A' cap', v = .slice A' xs[k].tree.kids.length cap' := h6.form
  exact ⟨g, o, A', cap', e, hb, by simpa [macE] using hc 0 _ rfl, by simpa [macE] using hc 1 _ rfl, by simpa [macE] using hc 2 _ rfl, by simpa [macE] using hc 3 _ rfl, by simpa [macE] using hc 4 _ rfl, by simpa [macE] using hc 5 _ rfl, h1, h2, h5, h6⟩
def Find19P (w:World) (e:Ending) (w':World):Prop:=∃ x0 x1 x2 x3 x4 x5 b,e = .returned (.tuple #[.agg #[x0,x1,x2,x3,x4,x5],.bool b])∧(#[x0,x1,x2,x3,x4,x5]).all (·.oneCell') = true∧Below w.heap.size w w'
set_option maxHeartbeats 4000000 in
theorem find19_any (l : List MacD) (s : ByteArray) (A : Option Addr) (cap : Nat) (w : World) (hv : SliceR macE w (Lt w.heap.size) l (.slice A l.length cap)) (hll : l.length ≤ 1000) :
    Calls Try.prog 22 #[.slice A l.length cap, .string s] w (Find19P w) := by
  obtain ⟨W0, hW0⟩ : ∃ W0, w.alloc (.cells #[.string ⟨#[]⟩, .int .i64 0, .int .i64 0, .string ⟨#[]⟩, .int .i64 0, .slice none 0 0] 33) = W0 := ⟨_, rfl⟩
  have hb0 : Below w.heap.size w W0 := by rw [← hW0]; exact blA _ _
  have HB0 := hid hb0
  have HZ : Hid (HasObj W0 w.heap.size (.cells #[.string ⟨#[]⟩, .int .i64 0, .int .i64 0, .string ⟨#[]⟩, .int .i64 0, .slice none 0 0] 33)) := by show HasObj _ _ _; rw [← hW0]; exact HasObj.at0 _ _
  obtain ⟨_, _, rs, hq, _, _, hrd, hls⟩ := hv.below hb0 hb0.size
  cases hq
  have H := hid (And.intro hrd hls)
  clear hrd hls hv hb0
  go_enter Try.func22, Try.ntmps22
  go_wp2_with fail
  go_loopw [6] (fun i wr => Hid (wr = W0) ∧ ∃ k : Nat, k ≤ l.length ∧ i = .int .i64 k) (fun i _ => l.length - (intOf i).toNat)
  case atStart => exact ⟨by first | exact hid rfl | exact hid trivial, 0, Nat.zero_le _, rfl⟩
  case round =>
  obtain ⟨hw9, k, hk, rfl⟩ := hrel
  obtain rfl := hw9.out
  by_cases hlt : k < l.length
  · have i0 : (k : Int) < (l.length : Int) := by omega
    have i00 : (0 : Int) ≤ (k : Int) := by omega
    obtain ⟨g2, o2, A2, c2, rfl, hg2, e0, e1, e2, e3, e4, e5, _, _, _, _⟩ := mac_at H.out.1 H.out.2 hlt
    cases hq : (l[k].name.toList == s.toList) with
    | true =>
      go_wp2_with (first
        | (refine sR 33 4 23 HZ.out ?_)
        | fail)
      refine rtR Try.results22 Try.underlying33 (.bool true) (HZ.out.row _) ?_
      exact ⟨_, _, _, _, _, _, _, rfl, by simp [Value.oneCell'], below_setRowB HB0.out (Nat.le_refl _) _⟩
    | false =>
      go_wp2_with fail
      go_roundw
      case rel => exact ⟨by first | exact hid rfl | exact hid trivial, k + 1, by omega, by go_num⟩
      case measure => simp [intOf]; omega
  · have i0 : ¬ (k : Int) < (l.length : Int) := by omega
    go_wp2_with (first
      | (refine sR 33 4 24 HZ.out ?_)
      | fail)
    refine rtR Try.results22 Try.underlying33 (.bool false) (HZ.out.row _) ?_
    exact ⟨_, _, _, _, _, _, _, rfl, by simp [Value.oneCell'], below_setRowB HB0.out (Nat.le_refl _) _⟩
theorem alcN {K:Act→World→Prop} {a:Act} {wk:World} {o:Obj} (h:∀ X,Hid (Below wk.heap.size wk X∧HasObj X wk.heap.size o∧X.heap.size = wk.heap.size + 1)→K a X):K a (wk.alloc o):=h _ ⟨blA _ _,HasObj.at0 _ _,by simp⟩
theorem alcD {K:Act→World→Prop} {a:Act} {wk:World} {o:Obj} (h:∀ X,Hid (Below wk.heap.size wk X∧HasObj X wk.heap.size o∧X.heap.size = wk.heap.size + 1)→K a X):K a (wk.alloc o).drew:=h _ ⟨Below.drew (blA _ _),(HasObj.at0 _ _).dr,by show (wk.alloc o).heap.size = _;simp⟩
def OwnX {α:Type} (E:Enc α) (T:TypeId) (w:World) (b:Nat) (S:Nat→Prop) (ts:List α) (v:Value):Prop:=∃ cs,w.ownsRow b T E.size v ts.length cs∧ListR E w S ts cs
section
variable {α:Type} {E:Enc α} {T:TypeId}
theorem OwnX.below {w w':World} {b:Nat} {S:Nat→Prop} {ts:List α} {v:Value} (h:OwnX E T w b S ts v) (hS:∀ k,S k→k < w.heap.size) (hb:Below w.heap.size w w'):OwnX E T w' b S ts v:=by
 obtain ⟨cs,h1,h2⟩:=h
 exact ⟨cs,owns_below _ h1 hb,h2.keep (fun p hp=>hb.cell (hS _ hp)) (fun _ h=>h)⟩
theorem OwnX.own_lt {w:World} {b:Nat} {S:Nat→Prop} {ts:List α} {v:Value} (h:OwnX E T w b S ts v):∀ k,v.ownBlock = some k→b≤k∧k < w.heap.size:=by
 obtain ⟨cs,h1,_⟩:=h
 exact h1.lt
theorem OwnX.sl {w:World} {b:Nat} {S:Nat→Prop} {ts:List α} {v:Value} (h:OwnX E T w b S ts v):∃ A n c,v = .slice A n c:=by
 obtain ⟨cs,⟨_,h1⟩,_⟩:=h
 rcases h1 with ⟨rfl,h0⟩ | ⟨g,cap,cur,rfl,_⟩
 ·exact ⟨_,_,_,rfl⟩
 ·exact ⟨_,_,_,rfl⟩
theorem OwnX.empty {w:World} {b g:Nat} (S:Nat→Prop) (h:HasObj w g (.cells #[] T)) (hb:b≤g):OwnX E T w b S [] (.slice (some ⟨g,0,none⟩) 0 0) :=
 ⟨[],⟨by simp,.inr ⟨g,0,#[],rfl,hb,h,Nat.le_refl _,by simp [maxLen],by simp,by simp⟩⟩,rfl⟩
theorem OwnX.rowsS {w:World} {b:Nat} {S N:Nat→Prop} {ts:List α} {v:Value} (h:OwnX E T w b S ts v) (hN:∀ k,b≤k∧k < w.heap.size→N k):SliceR E w (fun q=>S q∨N q) ts v:=by
 obtain ⟨cs,h1,h2⟩:=h
 exact SliceR.of_own (E:=E) h1 (fun k hk=>.inr (hN k (h1.lt k hk))) (h2.keep (sameRefl _ _) (fun k hk=>.inl hk))
theorem step_app_XG {w:World} {b:Nat} {S:Nat→Prop} {xss yss:List α} {v:Value} {TS:TypeId} {z:Value} {bytes:Nat} (hu:Try.prog.underlying TS = some (.slice T)) (hinf:InfoE T z E.size bytes) (hz:z.cells.size = E.size) (hby:bytes≤200)
  {ops:Array Oper} {o:Oper} {a:Act} {K:Act→World→Prop} {Q:Exit→Act→World→Prop} {E0:Prop} (hgd:o.guard = none) (s x:Operand)
  (ho:o.op = .call { callee:=.builtin .append,args:=#[s,x],argTypes:=#[TS,TS] })
  (hs:a.eval s = v) (hown:OwnX E T w b S xss v) (hS:∀ k,S k→k < w.heap.size∧v.ownBlock≠some k) (A:Option Addr) (m c:Nat) (hx:a.eval x = .slice A m c) (S':Nat→Prop) (cs':List Value) (hrd:Reads w S' A cs') (hls:ListR E w S yss cs') (hm:m = yss.length)
  (hbound:xss.length + yss.length≤100000000) (hb:b≤w.heap.size)
  (h:∀ v' w',OwnX E T w' b S (xss ++ yss) v'→Below b w w'→w.grownBy w' v.ownBlock→K (a.put o.dst v') w') :
  if Region.wanted o (yielded ops a.tmps) = true then Oper.wp Try.prog o a w K Q else E0:=by
 obtain ⟨i0,hi0,hz0,hz1,hz2⟩:=hinf
 subst hm
 obtain ⟨cs,ho1,ho2⟩:=hown
 have hl:=hls.len
 refine step_append_any w hgd s x TS ho b T i0 _ E.size bytes hu hi0 hz0 hz1 hz2 hz E.pos v _ _ hs ho1 _ A _ c cs' hx hl hrd hls.one (by simp only [maxLen];omega) ?_ hb ?_
 ·have:(xss.length + yss.length) * bytes≤100000000 * 200:=Nat.mul_le_mul hbound hby
  omega
 ·intro v' w' h3 h4 h5
  exact h v' w' ⟨cs ++ cs',by rw [List.length_append];exact h3,(ho2.append hls).keep (S:=S) (fun p hp=>World.cell?_of_block (h4.block _ (hS _ hp).1 (fun e=>(hS _ hp).2 e.symm))) (fun _ h=>h)⟩ (below_of_grown _ ho1 h4 hb) h4
end
theorem emp19 {w:World} {b g:Nat} (S:Nat→Prop) (h:HasObj w g (.cells #[] 33)) (hb:b≤g):OwnX macE 33 w b S [] (.slice (some ⟨g,0,none⟩) 0 0)∧∀ k,(Value.slice (some ⟨g,0,none⟩) 0 0).ownBlock = some k→HasObj w k (.cells #[] 33) :=
 ⟨OwnX.empty S h hb,fun k hk=>by simp only [Value.ownBlock] at hk;exact Option.some.inj hk ▸ h⟩
theorem obj_ne19 {X:World} {g:Nat} {c:Array Value} {T T':TypeId} (h0:HasObj X g (.cells #[] T)) (h1:HasObj X g (.cells c T')) (hc:c.size≠0):False:=by
 unfold HasObj at h0 h1
 rw [h0] at h1
 injection h1 with h1
 injection h1 with h1
 rw [← h1] at hc
 exact hc rfl
def RAddP (S:Nat→Prop) (w:World) (n:Nat) (e:Ending) (w':World):Prop:=∃ (xs:List MacD) (v:Value) (er:Int),e = .returned (.tuple #[v,.int .i64 er])∧SliceR macE w' (fun q=>S q∨w.heap.size≤q∧q < w'.heap.size) xs v∧xs.length≤n + 1∧Below w.heap.size w w'
set_option maxHeartbeats 8000000 in
theorem radd19_any (l:List MacD) (m:MacD) (A Am:Option Addr) (cap cm:Nat) (w:World) (S:Nat→Prop) (hS:∀ q,S q→q < w.heap.size) (hvS:SliceR macE w S l (.slice A l.length cap)) (hll:l.length≤1000) (hkS:SliceR treeE w S m.tree.kids (.slice Am m.tree.kids.length cm)) (hn:m.name.size≤maxLen) (hP:In64 m.params) (hok:NodeOk m.tree) (hct:countS m.tree≤1000000) :
  Calls Try.prog 15 #[.slice A l.length cap,.agg #[.string m.name,.int .i64 m.params,.int .i64 m.tree.kind,.string m.tree.text,.int .i64 m.tree.cols,.slice Am m.tree.kids.length cm]] w (RAddP S w l.length):=by
 have hv:=(hvS.keep (fun _ _=>rfl) hS:SliceR macE w (Lt w.heap.size) l (.slice A l.length cap))
 have hk:=(hkS.keep (fun _ _=>rfl) hS:SliceR treeE w (Lt w.heap.size) m.tree.kids (.slice Am m.tree.kids.length cm))
 have HSS:=hid hS
 obtain ⟨W0,hW0⟩:∃ W0,w.alloc (.cells #[.string m.name,.int .i64 m.params,.int .i64 m.tree.kind,.string m.tree.text,.int .i64 m.tree.cols,.slice Am m.tree.kids.length cm] 33) = W0:=⟨_,rfl⟩
 have hb0:Below w.heap.size w W0:=by rw [← hW0];exact blA _ _
 have HB0:=hid hb0
 have hbx:HasObj W0 w.heap.size (.cells #[.string m.name,.int .i64 m.params,.int .i64 m.tree.kind,.string m.tree.text,.int .i64 m.tree.cols,.slice Am m.tree.kids.length cm] 33):=by rw [← hW0];exact HasObj.at0 _ _
 have HB1:=hid hbx
 have HVS:=hid hvS
 have HK:=hid (hk.below hb0 hb0.size)
 have CF:=hid (find19_any l m.name A cap W0 (hv.below hb0 hb0.size) hll)
 have HE:Hid (∀ W er,Below W0.heap.size W0 W→RAddP S w l.length (.returned (.tuple #[.slice A l.length cap,.int .i64 er])) W):=fun W er hW=>⟨l,_,er,rfl,hvS.keep (fun p hp=>(hb0.trans (hW.mono hb0.size)).cell (hS _ hp)) (fun q hq=>.inl hq),Nat.le_succ _,hb0.trans (hW.mono hb0.size)⟩
 have CS:Hid (∀ W,Calls Try.prog 23 #[.string m.name] W fun e w'=>e = .returned (.bool (symbolS m.name))∧Below W.heap.size W w'):=fun W=>symbol_any m.name W hn
 have CT:Hid (∀ W,Below W0.heap.size W0 W→Calls Try.prog 24 #[.agg #[.int .i64 m.tree.kind,.string m.tree.text,.int .i64 m.tree.cols,.slice Am m.tree.kids.length cm],.int .i64 m.params] W fun e w'=>∃ b,e = .returned (.bool b)∧Below W.heap.size W w'):=fun W hW=>rtemplate19_any m.tree Am cm m.params W (HK.out.below hW hW.size) hok hct
 have HMR:Hid (∀ W,Below W0.heap.size W0 W→macE.R W S m [.string m.name,.int .i64 m.params,.int .i64 m.tree.kind,.string m.tree.text,.int .i64 m.tree.cols,.slice Am m.tree.kids.length cm]):=fun W hW=>⟨_,rfl,hn,hP,hok,hkS.keep (fun p hp=>(hb0.trans (hW.mono hb0.size)).cell (hS _ hp)) (fun _ h=>h)⟩
 have k0:=hbx.cell 0
 have k1:=hbx.cell 1
 have k2:=hbx.cell 2
 have k3:=hbx.cell 3
 have k4:=hbx.cell 4
 have k5:=hbx.cell 5
 simp only [List.getElem?_toArray,List.getElem?_cons_zero,List.getElem?_cons_succ] at k0 k1 k2 k3 k4 k5
 have hsz:m.name.size≤9223372036854775807:=by unfold maxLen at hn;omega
 have HLN:=hid hll
 clear hv hk hP hok hct hb0 hbx hS hvS hkS
 go_enter Try.func15,Try.ntmps15
 go_wp2_with fail
 refine CF.out.mono ?_
 rintro e w1 ⟨x0,x1,x2,x3,x4,x5,bf,rfl,hone,hb1⟩
 have HONE:=hid hone
 clear hone
 have HBA:=hid hb1
 have HB1:=hid (HB1.out.below hb1)
 clear hb1 k0 k1 k2 k3 k4 k5 CF hW0
 go_upto_region 2 with (first
  | (refine sR 33 6 13 (HasObj.at0 _ _) ?_ (h1:=HONE.out))
  | fail)
 generalize hX:World.setRow _ _ _ = X
 have hbx:=putB hX
 have HBA:=hid (HBA.out.trans (hbx.mono HBA.out.size))
 have HB1:=hid (HB1.out.below hbx)
 clear hX hbx
 have k0:=HB1.out.cell 0
 have k1:=HB1.out.cell 1
 have k2:=HB1.out.cell 2
 have k3:=HB1.out.cell 3
 have k4:=HB1.out.cell 4
 have k5:=HB1.out.cell 5
 simp only [List.getElem?_toArray,List.getElem?_cons_zero,List.getElem?_cons_succ] at k0 k1 k2 k3 k4 k5
 by_cases h1:(m.name.size:Int) < 2
 ·have d1:decide ((m.name.size:Int) < 2) = true:=by simpa using h1
  clear h1
  go_wp2_with fail
  refine bodyPost_ret (v:=.tuple #[.slice A l.length cap,.int .i64 1]) (by simp [results,Try.results15,go_sem]) rfl ?_
  exact HE.out _ _ HBA.out
 have d1:decide ((m.name.size:Int) < 2) = false:=by simpa using h1
 clear h1
 have CS:=hid (CS.out X)
 generalize symbolS m.name = bs at *
 cases bs
 ·go_wp2_with (first
   | (go_at_call 23;refine Calls.mono CS.out ?_;rintro e w3 ⟨rfl,hb3⟩;have HBA:=hid (HBA.out.trans (hb3.mono HBA.out.size));clear hb3)
   | fail)
  refine bodyPost_ret (v:=.tuple #[.slice A l.length cap,.int .i64 1]) (by simp [results,Try.results15,go_sem]) rfl ?_
  exact HE.out _ _ HBA.out
 go_wp2_with (first
  | (go_at_call 23;refine Calls.mono CS.out ?_;rintro e w3 ⟨rfl,hb3⟩;have HBA:=hid (HBA.out.trans (hb3.mono HBA.out.size));have HB1:=hid (HB1.out.below hb3);have k0:=HB1.out.cell 0;have k1:=HB1.out.cell 1;have k2:=HB1.out.cell 2;have k3:=HB1.out.cell 3;have k4:=HB1.out.cell 4;have k5:=HB1.out.cell 5;simp only [List.getElem?_toArray,List.getElem?_cons_zero,List.getElem?_cons_succ] at k0 k1 k2 k3 k4 k5;clear hb3)
  | fail)
 refine (CT.out _ HBA.out).mono ?_
 rintro e w4 ⟨bt,rfl,hb4⟩
 have HBA:=hid (HBA.out.trans (hb4.mono HBA.out.size))
 have HB1:=hid (HB1.out.below hb4)
 clear hb4 k0 k1 k2 k3 k4 k5 CS CT
 cases bt
 ·go_wp2_with fail
  refine bodyPost_ret (v:=.tuple #[.slice A l.length cap,.int .i64 1]) (by simp [results,Try.results15,go_sem]) rfl ?_
  exact HE.out _ _ HBA.out
 cases bf
 rotate_left
 ·go_wp2_with fail
  refine bodyPost_ret (v:=.tuple #[.slice A l.length cap,.int .i64 9]) (by simp [results,Try.results15,go_sem]) rfl ?_
  exact HE.out _ _ HBA.out
 by_cases h64:l.length < 64
 rotate_left
 ·have d3:decide ((64:Int)≤(l.length:Int)) = true:=by simp;omega
  have d3':decide (64≤l.length) = true:=by simp;omega
  clear h64
  go_wp2_with fail
  refine bodyPost_ret (v:=.tuple #[.slice A l.length cap,.int .i64 6]) (by simp [results,Try.results15,go_sem]) rfl ?_
  exact HE.out _ _ HBA.out
 have d3:decide ((64:Int)≤(l.length:Int)) = false:=by simp;omega
 have d3':decide (64≤l.length) = false:=by simp;omega
 clear h64
 have HVB:=hid (HVS.out.keep (fun p hp=>(HB0.out.trans (HBA.out.mono HB0.out.size)).cell (HSS.out _ hp)) (fun _ h=>h):SliceR macE w4 S l (.slice A l.length cap))
 have HSV:Hid (∀ q,S q→q < w4.heap.size):=fun q hq=>Nat.lt_of_lt_of_le (HSS.out q hq) (HB0.out.trans (HBA.out.mono HB0.out.size)).size
 obtain ⟨_,_,rs,hq,_,_,hrd,hls⟩:=HVB.out
 cases hq
 have HRD:Hid (∀ W,Below w4.heap.size w4 W→Reads W S A rs∧ListR macE W S l rs):=fun W hW=>⟨hrd.keep (fun p hp=>hW.cell (HSV.out _ hp)) (fun _ h=>h),hls.keep (fun p hp=>hW.cell (HSV.out _ hp)) (fun _ h=>h)⟩
 have HMR:=hid (fun W (hW:Below w4.heap.size w4 W)=>HMR.out W (HBA.out.trans (hW.mono HBA.out.size)))
 have HBX:=HB1
 have HWV:=hid (HB0.out.trans (HBA.out.mono HB0.out.size))
 clear hrd hls HVB HVS HE HBA HB0
 generalize w4 = V at *
 go_upto_region 8 with fail
 have HB:=hid (Below.drew (Below.refl V.heap.size V))
 refine wp_region_noPanic ?_
 refine wp_region_held_drew (S:=fun w'=>Below V.heap.size V w') (by kernel_rfl) HB.out (fun hHeld=>?_)
 refine tk 1 44 rfl ?_
 refine tr 3 46 33 3 rfl (fun w hS=>HBX.out.below hS) Try.underlying33 ?_
 refine rn [0,4] (rc (some 43) rfl (fun K hK=>?_) (rc (some 47) rfl (fun K hK=>?_) AllReadyH.nil))
 go_simp
 first | refine alcD (fun X hX=>?_) | refine alcN (fun X hX=>?_)
 have hx1:=hX.out.1
 have HEM:=hid (emp19 (b:=V.heap.size) S hX.out.2.1 HB.out.size)
 have HO1:=hid HEM.out.1
 have HG0:=hid HEM.out.2
 try have HM1:=hid (HM1.out.below hx1)
 first | have HB:=hid (HB.out.trans (hx1.mono HB.out.size)) | have HB:=hid hx1
 clear hX hx1 HEM
 refine hK.out _ _ (HB.out) (fun hHeld=>?_)
 clear hK K
 refine rn [2,4] (rc (some 45) rfl (fun K hK=>?_) (rc (some 47) rfl (fun K hK=>?_) AllReadyH.nil))
 refine step_app_XG Try.underlying22 macInfo rfl (by decide) rfl (.tmp 43) (.tmp 44) (by rfl) (by rfl) HO1.out (fun q hq=>⟨Nat.lt_of_lt_of_le (HSV.out q hq) HB.out.size,fun e=>by have h1:=(HO1.out.own_lt q e).1;have h2:q < V.heap.size:=HSV.out q hq;omega⟩) _ _ _ (by rfl) S _ (HRD.out _ HB.out).1 (HRD.out _ HB.out).2 rfl (by have:=HLN.out;simp;omega) HB.out.size ?_
 intro v3 w3 ho3 hb3 hg3
 rw [List.nil_append] at ho3
 obtain ⟨A9,n9,c9,e9⟩:=ho3.sl
 subst e9
 try have HM1:=hid (HM1.out.grown hg3 (fun e=>obj_ne19 (HG0.out _ e.symm) HM1.out (by simp)))
 have HO1:=hid ho3
 have HB:=hid (HB.out.trans hb3)
 clear ho3 hb3 hg3
 refine hK.out _ _ (HB.out) (fun hHeld=>?_)
 clear hK K
 refine r1 4 (some 47) rfl (fun K hK=>?_)
 go_simp
 first | refine alcD (fun X hX=>?_) | refine alcN (fun X hX=>?_)
 have hx1:=hX.out.1
 have HM1:=hid hX.out.2.1
 try have HG0:=hid (fun k hk=>(HG0.out k hk).below hx1)
 try have HO1:=hid (HO1.out.below (fun q hq=>Nat.lt_of_lt_of_le (HSV.out q hq) HB.out.size) hx1)
 first | have HB:=hid (HB.out.trans (hx1.mono HB.out.size)) | have HB:=hid hx1
 clear hX hx1
 refine hK.out _ _ (HB.out) (fun hHeld=>?_)
 clear hK K
 try simp only [Act.put,List.setIfInBounds_toArray,List.set_cons_zero,List.set_cons_succ]
 rotate_left
 go_simp
 first | refine alcD (fun X hX=>?_) | refine alcN (fun X hX=>?_)
 have hx1:=hX.out.1
 have HM1:=hid hX.out.2.1
 try have HG0:=hid (fun k hk=>(HG0.out k hk).below hx1)
 try have HO1:=hid (HO1.out.below (fun q hq=>Nat.lt_of_lt_of_le (HSV.out q hq) HB.out.size) hx1)
 first | have HB:=hid (HB.out.trans (hx1.mono HB.out.size)) | have HB:=hid hx1
 clear hX hx1
 refine hK.out _ _ (HB.out) (fun hHeld=>?_)
 clear hK K
 refine r1 2 (some 45) rfl (fun K hK=>?_)
 refine step_app_XG Try.underlying22 macInfo rfl (by decide) rfl (.tmp 43) (.tmp 44) (by rfl) (by rfl) HO1.out (fun q hq=>⟨Nat.lt_of_lt_of_le (HSV.out q hq) HB.out.size,fun e=>by have h1:=(HO1.out.own_lt q e).1;have h2:q < V.heap.size:=HSV.out q hq;omega⟩) _ _ _ (by rfl) S _ (HRD.out _ HB.out).1 (HRD.out _ HB.out).2 rfl (by have:=HLN.out;simp;omega) HB.out.size ?_
 intro v3 w3 ho3 hb3 hg3
 rw [List.nil_append] at ho3
 obtain ⟨A9,n9,c9,e9⟩:=ho3.sl
 subst e9
 try have HM1:=hid (HM1.out.grown hg3 (fun e=>obj_ne19 (HG0.out _ e.symm) HM1.out (by simp)))
 have HO1:=hid ho3
 have HB:=hid (HB.out.trans hb3)
 clear ho3 hb3 hg3
 refine hK.out _ _ (HB.out) (fun hHeld=>?_)
 clear hK K
 try simp only [Act.put,List.setIfInBounds_toArray,List.set_cons_zero,List.set_cons_succ]
 rotate_left
 go_simp
 first | refine alcD (fun X hX=>?_) | refine alcN (fun X hX=>?_)
 have hx1:=hX.out.1
 have HM1:=hid hX.out.2.1
 try have HG0:=hid (fun k hk=>(HG0.out k hk).below hx1)
 try have HO1:=hid (HO1.out.below (fun q hq=>Nat.lt_of_lt_of_le (HSV.out q hq) HB.out.size) hx1)
 first | have HB:=hid (HB.out.trans (hx1.mono HB.out.size)) | have HB:=hid hx1
 clear hX hx1
 refine hK.out _ _ (HB.out) (fun hHeld=>?_)
 clear hK K
 refine r1 0 (some 43) rfl (fun K hK=>?_)
 go_simp
 first | refine alcD (fun X hX=>?_) | refine alcN (fun X hX=>?_)
 have hx1:=hX.out.1
 have HEM:=hid (emp19 (b:=V.heap.size) S hX.out.2.1 HB.out.size)
 have HO1:=hid HEM.out.1
 have HG0:=hid HEM.out.2
 try have HM1:=hid (HM1.out.below hx1)
 first | have HB:=hid (HB.out.trans (hx1.mono HB.out.size)) | have HB:=hid hx1
 clear hX hx1 HEM
 refine hK.out _ _ (HB.out) (fun hHeld=>?_)
 clear hK K
 refine r1 2 (some 45) rfl (fun K hK=>?_)
 refine step_app_XG Try.underlying22 macInfo rfl (by decide) rfl (.tmp 43) (.tmp 44) (by rfl) (by rfl) HO1.out (fun q hq=>⟨Nat.lt_of_lt_of_le (HSV.out q hq) HB.out.size,fun e=>by have h1:=(HO1.out.own_lt q e).1;have h2:q < V.heap.size:=HSV.out q hq;omega⟩) _ _ _ (by rfl) S _ (HRD.out _ HB.out).1 (HRD.out _ HB.out).2 rfl (by have:=HLN.out;simp;omega) HB.out.size ?_
 intro v3 w3 ho3 hb3 hg3
 rw [List.nil_append] at ho3
 obtain ⟨A9,n9,c9,e9⟩:=ho3.sl
 subst e9
 try have HM1:=hid (HM1.out.grown hg3 (fun e=>obj_ne19 (HG0.out _ e.symm) HM1.out (by simp)))
 have HO1:=hid ho3
 have HB:=hid (HB.out.trans hb3)
 clear ho3 hb3 hg3
 refine hK.out _ _ (HB.out) (fun hHeld=>?_)
 clear hK K
 try simp only [Act.put,List.setIfInBounds_toArray,List.set_cons_zero,List.set_cons_succ]
 rotate_left
 all_goals
  refine r1 5 (some 48) rfl (fun K hK=>?_)
  refine step_app_XG Try.underlying22 macInfo rfl (by decide) rfl (.tmp 45) (.tmp 47) (by rfl) (by rfl) HO1.out (fun q hq=>⟨Nat.lt_of_lt_of_le (HSV.out q hq) HB.out.size,fun e=>by have h1:=(HO1.out.own_lt q e).1;have h2:q < V.heap.size:=HSV.out q hq;omega⟩) _ 1 1 (by rfl) (fun k=>k = _) _ (fun _=>⟨_,0,rfl,rfl,fun j u hu=>by rw [Nat.zero_add];exact (HM1.out.cell j).trans (by simpa using hu)⟩) (ListR.single (E:=macE) (HMR.out _ HB.out)) rfl (by have:=HLN.out;simp;omega) HB.out.size ?_
  intro v4 w4 ho4 hb4 hg4
  have HO4:=hid ho4
  have HB:=hid (HB.out.trans hb4)
  clear ho4 hb4 hg4
  refine hK.out _ _ (HB.out) (fun hHeld=>?_)
  clear hK K
  refine tk 6 4 rfl ?_
  refine tk 7 5 rfl ?_
  refine wpAnyH_done (by kernel_rfl) ?_ _
  refine NoPanic.normal ?_
 all_goals
  go_wp2_with fail
  refine bodyPost_ret (v:=.tuple #[v4,.int .i64 0]) (by simp [results,Try.results15,go_sem]) rfl ?_
  exact ⟨l ++ [m],v4,0,rfl,HO4.out.rowsS (fun k hk=>⟨Nat.le_trans HWV.out.size hk.1,hk.2⟩),by simp,HWV.out.trans (HB.out.mono HWV.out.size)⟩
end Go.Proofs.Ythpngeboknmllaa
