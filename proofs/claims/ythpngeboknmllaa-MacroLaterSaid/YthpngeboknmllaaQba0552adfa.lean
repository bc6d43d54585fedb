/- Texts put together. -/
import Derived.Test.YthpngeboknmllaaQ44840948bc
import Derived.Test.YthpngeboknmllaaQ9e9cdf4260
import Derived.Test.YthpngeboknmllaaQea8e5a908d
import Derived.Maps.OwnSet
import Derived.Maps.Views
set_option linter.unusedVariables false
set_option linter.unusedSimpArgs false
set_option maxRecDepth 100000
namespace Go.Proofs.Ythpngeboknmllaa
open Go.RowKit Go.WideMaps Go.ChangeMaps
def RV (v:Value):Option (DataW Value × List MemPlace):=some (.held v,[])
def tmplZ:Value:=.agg #[.int .i64 0,.int .i64 0,.string ⟨#[]⟩,.int .i64 0,.slice none 0 0]
def MapF (w:World) (bm n:Nat) (F:List UInt8→Option Value):Prop :=
 ∃ D,w.ownsMap Try.prog 9 RV bm n D∧∀ p,Maps.has D (.string p) = (F p).isSome∧∀ z,D.atKey (.string p) z = match F p with | none=>z | some v=>.held v
theorem MapF.made (w:World):MapF (w.alloc (.map #[] 0)) w.heap.size 0 (fun _=>none):=⟨_,World.ownsMap_made w _ _ _,fun p=>⟨rfl,fun z=>rfl⟩⟩
theorem MapF.lt {w:World} {bm n:Nat} {F:List UInt8→Option Value} (h:MapF w bm n F):bm < w.heap.size:=by
 obtain ⟨D,h1,_⟩:=h;exact h1.lt
theorem MapF.keep {w w':World} {bm n:Nat} {F:List UInt8→Option Value} (h:MapF w bm n F) (hm:w'.heap[bm]? = w.heap[bm]?):MapF w' bm n F:=by
 obtain ⟨D,⟨es,clock,hb,F,hs,hD⟩,h2⟩:=h
 exact ⟨D,⟨es,clock,hm.trans hb,F,hs,hD⟩,h2⟩
theorem mkeyed:Maps.Keyed Try.prog 9:=Maps.string_keyed Try.underlying9
theorem mkey_of (s:ByteArray) (h:s.size≤maxLen):keyOf Try.prog 9 (.string s) = some (.string s.data.toList):=keyOf_string_mk Try.underlying9 h
theorem MapF.look {w : World} {bm n : Nat} {F : List UInt8 → Option Value} (h : MapF w bm n F) (s : ByteArray) (hs : s.size ≤ maxLen) :
    (Instr.lookup 50 (.map (some bm)) (.string s) true).run Try.prog w = .ok (.tuple #[(F s.data.toList).getD tmplZ, .bool (F s.data.toList).isSome]) w := by
  obtain ⟨D, h1, h2⟩ := h
  obtain ⟨v, ps, hrun, hR⟩ := h1.look_ok mkeyed Try.underlying50 (z := tmplZ) (by kernel_rfl) (zd := .held tmplZ) rfl (mkey_of s hs)
  obtain ⟨h3, h4⟩ := h2 s.data.toList
  rw [h4] at hR
  rw [h3] at hrun
  cases hf : F s.data.toList with
  | none =>
    rw [hf] at hR hrun
    simp only [RV, Option.some.injEq, Prod.mk.injEq, DataW.held.injEq] at hR
    rw [hR.1] at hrun
    exact hrun
  | some u =>
    rw [hf] at hR hrun
    simp only [RV, Option.some.injEq, Prod.mk.injEq, DataW.held.injEq] at hR
    rw [hR.1] at hrun
    exact hrun
theorem MapF.store {w:World} {bm n:Nat} {F:List UInt8→Option Value} (h:MapF w bm n F) (hn:n < maxLen) (s:ByteArray) (hs:s.size≤maxLen) (v:Value) :
  ∃ w',(Instr.mapUpdate 50 (.map (some bm)) (.string s) v).run Try.prog w = .ok () w'∧MapF w' bm (n + 1) (fun q=>if q = s.data.toList then some v else F q)∧w.mapTurned w' bm:=by
 obtain ⟨D,h1,h2⟩:=h
 have hIM:=h1.isMap
 obtain ⟨w',hrun,ho,ht⟩:=h1.store mkeyed Try.underlying50 hn (mkey_of s hs) (d:=.held v) (ps:=[]) rfl
 refine ⟨w',hrun,⟨_,ho,fun p=>?_⟩,ht⟩
 obtain ⟨h3,h4⟩:=h2 p
 by_cases he:p = s.data.toList
 ·subst he
  simp only [if_pos]
  exact ⟨by rw [Maps.has_put_same hIM (by simp [WideAt.IsKeyLit]) _];rfl,fun z=>Maps.atKey_put_same hIM (by simp [WideAt.IsKeyLit]) _ z⟩
 ·have hne:Lit.string p≠Lit.string s.data.toList:=by
   intro e;injection e with e;exact he e
  simp only [if_neg he]
  exact ⟨by rw [Maps.has_put_other hne];exact h3,fun z=>by rw [Maps.atKey_put_other hne];exact h4 z⟩
theorem kept_turned {w w':World} {bm:Nat} (h:w.mapTurned w' bm):Kept (fun k=>k = bm) w w':=(Kept.grown h.grown).mono (fun k _ e=>by injection e)
theorem strInfo:InfoE 9 (.string ⟨#[]⟩) 1 16:=by
 have h:(Try.prog.info? 9).map (fun i=>(i.zero,i.size,i.bytes)) = some (some (.string ⟨#[]⟩),1,16):=by kernel_rfl
 obtain ⟨i,h1,h2,h3,h4⟩:=info_parts h
 exact ⟨i,h1,h2,h3,h4⟩
theorem OwnE.keptN {α:Type} {E:Enc α} {T:TypeId} {w w':World} {b:Nat} {ts:List α} {v:Value} (h:OwnE E T w b ts v) {N:Nat→Prop} (hk:Kept N w w') (hN:∀ k,b≤k→¬ N k):OwnE E T w' b ts v:=by
 obtain ⟨cs,⟨hl,h1⟩,h2⟩:=h
 refine ⟨cs,⟨hl,?_⟩,h2.keep (fun p hp=>hk.cell hp.2.1 (hN _ hp.1)) (fun k hk'=>⟨hk'.1,Nat.lt_of_lt_of_le hk'.2.1 hk.size,hk'.2.2⟩)⟩
 rcases h1 with h1 | ⟨g',cap,cur,rfl,hbg,hh,p1,p2,p3,p4⟩
 ·exact .inl h1
 ·refine .inr ⟨g',cap,cur,rfl,hbg,?_,p1,p2,p3,p4⟩
  rw [hk.block g' (Array.getElem?_eq_some_iff.1 hh).1 (hN _ hbg)]
  exact hh
def TabN (tb bm:Nat) (vn:Value) (k:Nat):Prop:=k = tb∨k = bm∨some k = vn.ownBlock
def EntR (w:World) (N:Nat→Prop) (v:Value) (P:Int) (t:Tree):Prop :=
 ∃ A cap,v = .agg #[.int .i64 P,.int .i64 t.kind,.string t.text,.int .i64 t.cols,.slice A t.kids.length cap]∧SliceR treeE w (fun k=>k < w.heap.size∧¬ N k) t.kids (.slice A t.kids.length cap)∧NodeOk t∧countS t≤1000000
theorem EntR.kept {w w':World} {N N':Nat→Prop} {v:Value} {P:Int} {t:Tree} (h:EntR w N v P t) (hk:Kept N w w') (hN:∀ k,k < w.heap.size→N' k→N k):EntR w' N' v P t:=by
 obtain ⟨A,cap,h1,h2,h3,h4⟩:=h
 exact ⟨A,cap,h1,h2.keep (fun p hp=>hk.cell hp.1 hp.2) (fun k hk'=>⟨Nat.lt_of_lt_of_le hk'.1 hk.size,fun e=>hk'.2 (hN k hk'.1 e)⟩),h3,h4⟩
def TabAt (w : World) (tb bm b : Nat) (vn : Value) (names : List ByteArray) (G : List UInt8 → Option (Int × Tree)) : Prop :=
  tb ≠ bm ∧ tb < b ∧ bm < b ∧ b ≤ w.heap.size ∧ HasObj w tb (.cells #[vn, .map (some bm)] 52) ∧ OwnE strE 9 w b names vn ∧
    ∃ F n, MapF w bm n F ∧ n ≤ names.length ∧ ∀ p, match G p with
      | none => F p = none
      | some (P, t) => ∃ v, F p = some v ∧ EntR w (TabN tb bm vn) v P t
theorem TabAt.kept {w w' : World} {tb bm b : Nat} {vn : Value} {names : List ByteArray} {G : List UInt8 → Option (Int × Tree)} (h : TabAt w tb bm b vn names G) {N : Nat → Prop} (hk : Kept N w w') (hN : ∀ k, k < w.heap.size → ¬ N k) : TabAt w' tb bm b vn names G := by
  obtain ⟨h1, h2, h3, h4, h5, h6, F, n, h7, h8, h9⟩ := h
  have hk0 : Kept (fun _ => False) w w' := hk.mono (fun k hk' e => (hN k hk' e).elim)
  refine ⟨h1, h2, h3, Nat.le_trans h4 hk.size, hk0.obj h5 id, h6.keptN hk0 (fun _ _ => id), F, n, h7.keep (hk0.block _ h7.lt id), h8, fun p => ?_⟩
  have h10 := h9 p
  revert h10
  cases G p with
  | none => exact id
  | some r =>
    rintro ⟨v, e1, e2⟩
    exact ⟨v, e1, e2.kept (hk0.mono (fun _ _ e => e.elim)) (fun _ _ e => e)⟩
theorem TabAt.below {w w':World} {tb bm b:Nat} {vn:Value} {names:List ByteArray} {G:List UInt8→Option (Int × Tree)} (h:TabAt w tb bm b vn names G) (hb:Below w.heap.size w w'):TabAt w' tb bm b vn names G :=
 h.kept (Kept.of_below hb (fun _=>False)) (fun _ _=>id)
end Go.Proofs.Ythpngeboknmllaa
