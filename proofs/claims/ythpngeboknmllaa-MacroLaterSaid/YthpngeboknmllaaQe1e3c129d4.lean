/- Texts put together. -/
import Derived.Test.YthpngeboknmllaaQ4f1bb1657c
import Derived.Test.YthpngeboknmllaaQe49bdfa185
import Derived.Laws.CopyOwn
set_option linter.unusedVariables false
set_option linter.unusedSimpArgs false
namespace Go.Proofs.Ythpngeboknmllaa
open Go.RowKit
theorem run_copy_all {P : Program} (w : World) (dT ty elem : TypeId) (sz g n : Nat) (a : Addr) (sCap : Nat) (cur : Array Value) (T : TypeId) (cs : List Value)
    (hu : P.underlying dT = some (.slice elem)) (hs : (P.info? elem).map (·.size) = some sz) (hg : w.heap[g]? = some (.cells cur T (0, 0))) (hn : cs.length = n * sz)
    (hsrc : ∀ j v, cs[j]? = some v → w.cell? (a.add j) = some v) (hcur : cur.size = cs.length) (h1 : ∀ v ∈ cs, v.oneCell' = true) :
    (Builtin.copy_ #[dT, dT] ty #[.slice (some ⟨g, 0, none⟩) n n, .slice (some a) n sCap]).run P w = .ok (goInt n) (w.setRow g cs.toArray) := by
  have hl := run_loadCells_list (P := P) w a cs hsrc
  have hst := run_storeCells_at P g 0 T cs 0 cur w hg (by omega) h1
  simp only [Nat.add_zero, Nat.zero_add, List.take_zero, List.nil_append] at hst
  have hd : cur.toList.drop cs.length = [] := List.drop_of_length_le (by simp [hcur])
  cases hq : P.info? elem with
  | none => simp [hq] at hs
  | some i =>
    have hi : i.size = sz := by simpa [hq] using hs
    simp [Builtin.copy_, run_underlying hu, Builtin.lenOf, Builtin.firstCells, sizeOf, typeInfo, hq, hi, ← hn, hl, hst, hd]
theorem wpList_copy_all {P:Program} {w:World} {ops:Array Oper} {rest:List Oper} {o:Oper} {a:Act} {Q:Exit→Act→World→Prop} (hgd:o.guard = none) (d s:Operand) (dT:TypeId)
  (ho:o.op = .call { callee:=.builtin .copy,args:=#[d,s],argTypes:=#[dT,dT] }) (elem:TypeId) (sz:Nat) (hu:P.underlying dT = some (.slice elem)) (hs:(P.info? elem).map (·.size) = some sz)
  (g n:Nat) (ad:Addr) (sCap:Nat) (hd:a.eval d = .slice (some ⟨g,0,none⟩) n n) (hsv:a.eval s = .slice (some ad) n sCap) (cur:Array Value) (T:TypeId) (cs:List Value) (hg:w.heap[g]? = some (.cells cur T (0,0)))
  (hn:cs.length = n * sz) (hsrc:∀ j v,cs[j]? = some v→w.cell? (ad.add j) = some v) (hcur:cur.size = cs.length) (h1:∀ v ∈ cs,v.oneCell' = true)
  (h:wpList P ops Q rest (a.put o.dst (goInt n)) (w.setRow g cs.toArray)):wpList P ops Q (o :: rest) a w:=by
 refine wpList_plain hgd fun K hK=>?_
 have hrun:=run_copy_all (P:=P) w dT o.type elem sz g n ad sCap cur T cs hu hs hg hn hsrc hcur h1
 unfold Oper.wp
 simp [execOp,ho,resolve,invoke,builtin,hd,hsv,hrun,Result.andThen]
 exact hK _ _ h
theorem wpList_copy_none {P : Program} {w : World} {ops : Array Oper} {rest : List Oper} {o : Oper} {a : Act} {Q : Exit → Act → World → Prop} (hgd : o.guard = none) (d s : Operand) (dT : TypeId)
    (ho : o.op = .call { callee := .builtin .copy, args := #[d, s], argTypes := #[dT, dT] }) (elem : TypeId) (sz : Nat) (hu : P.underlying dT = some (.slice elem)) (hs : (P.info? elem).map (·.size) = some sz)
    (A : Option Addr) (c c' : Nat) (hd : a.eval d = .slice none 0 c') (hsv : a.eval s = .slice A 0 c)
    (h : wpList P ops Q rest (a.put o.dst (goInt 0)) w) : wpList P ops Q (o :: rest) a w := by
  refine wpList_plain hgd fun K hK => ?_
  have hrun : (Builtin.copy_ #[dT, dT] o.type #[.slice none 0 c', .slice A 0 c]).run P w = .ok (goInt 0) w := by
    cases hq : P.info? elem with
    | none => simp [hq] at hs
    | some i =>
      have hl : ∀ ad : Addr, (loadCells ad 0).run P w = .ok #[] w := fun ad => by simpa using run_loadCells_list (P := P) w ad [] (fun j v h => by simp at h)
      cases A <;> simp [Builtin.copy_, run_underlying hu, Builtin.lenOf, Builtin.firstCells, sizeOf, typeInfo, hq, hl]
  unfold Oper.wp
  simp [execOp, ho, resolve, invoke, builtin, hd, hsv, hrun, Result.andThen]
  exact hK _ _ h
def ptrV (x:PendT):Value:=.pointer (some ⟨x.1,x.2.1,none⟩)
def StackR (w:World) (B:Nat) (e:TypeId) (v:Value) (P:List PendT):Prop:=w.ownsRow B e 1 v P.length (P.map ptrV)
theorem StackR.top {w:World} {B:Nat} {e:TypeId} {v:Value} {P:List PendT} {x:PendT} (h:StackR w B e v (P ++ [x])):∃ g cap,v = .slice (some ⟨g,0,none⟩) (P.length + 1) cap∧B≤g∧g < w.heap.size∧P.length + 1≤cap∧cap≤maxLen∧w.cell? ⟨g,P.length,none⟩ = some (ptrV x)∧StackR w B e (.slice (some ⟨g,0,none⟩) P.length cap) P:=by
 obtain ⟨hl,h2⟩:=h
 rcases h2 with ⟨_,h0⟩ | ⟨g,cap,cur,rfl,hg,hh,h3,h4,h5,h6⟩
 ·simp at h0
 ·simp only [List.length_append,List.length_cons,List.length_nil,Nat.mul_one,List.map_append,List.map_cons,List.map_nil] at h3 h6 ⊢
  have h7:cur.toList.take P.length = P.map ptrV:=by
   have:=congrArg (List.take P.length) h6
   rw [List.take_take,Nat.min_eq_left (by omega),List.take_append_of_le_length (by simp)] at this
   rw [this]
   exact List.take_of_length_le (by simp)
  have h8:cur.toList[P.length]? = some (ptrV x):=by
   have:=congrArg (·[P.length]?) h6
   simp only [List.getElem?_take] at this
   rw [if_pos (by omega)] at this
   rw [this,List.getElem?_append_right (by simp)]
   simp
  refine ⟨g,cap,rfl,hg,(Array.getElem?_eq_some_iff.1 hh).1,by omega,h4,?_,by simp,.inr ⟨g,cap,cur,rfl,hg,hh,by omega,h4,h5,by simpa using h7⟩⟩
  rw [cell_of_row w g P.length cur e (0,0) hh]
  simpa using h8
end Go.Proofs.Ythpngeboknmllaa
