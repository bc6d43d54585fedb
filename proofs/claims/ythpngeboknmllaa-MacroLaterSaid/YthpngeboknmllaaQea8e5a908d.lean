/- Texts put together. -/
import Derived.Test.YthpngeboknmllaaQa6fc42ed80
set_option linter.unusedVariables false
set_option linter.unusedSimpArgs false
set_option maxRecDepth 100000
namespace Go.Proofs.Ythpngeboknmllaa
open Go.RowKit
def InfoE (T:TypeId) (z:Value) (size bytes:Nat):Prop:=∃ i,Try.prog.info? T = some i∧i.zero = some z∧i.size = size∧i.bytes = bytes
def OwnE {α:Type} (E:Enc α) (T:TypeId) (w:World) (b:Nat) (ts:List α) (v:Value):Prop:=∃ cs,w.ownsRow b T E.size v ts.length cs∧ListR E w (FreshIn b w v) ts cs
section
variable {α:Type} {E:Enc α} {T:TypeId}
theorem OwnE.rows {w:World} {b:Nat} {ts:List α} {v:Value} (h:OwnE E T w b ts v):SliceR E w (fun k=>b≤k∧k < w.heap.size) ts v:=by
 obtain ⟨cs,h1,h2⟩:=h
 exact SliceR.of_own (E:=E) h1 (fun k hk=>⟨(h1.lt k hk).1,(h1.lt k hk).2⟩) (h2.keep (sameRefl _ _) (fun k hk=>⟨hk.1,hk.2.1⟩))
theorem OwnE.nil (w:World) (b:Nat):OwnE E T w b [] (.slice none 0 0):=⟨[],World.ownsRow_nil _ _ _ _,rfl⟩
theorem OwnE.below {w w':World} {b:Nat} {ts:List α} {v:Value} (h:OwnE E T w b ts v) (hb:Below w.heap.size w w'):OwnE E T w' b ts v:=by
 obtain ⟨cs,h1,h2⟩:=h
 exact ⟨cs,owns_below _ h1 hb,h2.keep (S:=FreshIn b w v) (fun p hp=>hb.cell hp.2.1) (fun k hk=>⟨hk.1,Nat.lt_of_lt_of_le hk.2.1 hb.size,hk.2.2⟩)⟩
theorem OwnE.own_lt {w:World} {b:Nat} {ts:List α} {v:Value} (h:OwnE E T w b ts v):∀ k,v.ownBlock = some k→b≤k∧k < w.heap.size:=by
 obtain ⟨cs,h1,_⟩:=h
 exact fun k hk=>h1.lt k hk
theorem OwnE.form {w:World} {b:Nat} {ts:List α} {v:Value} (h:OwnE E T w b ts v):∃ A c,v = .slice A ts.length c:=h.rows.form
variable {w:World} {b:Nat} {xss yss:List α} {v:Value}
theorem ownE_grown {w':World} {v':Value} {cs rs:List Value} (h1:w.ownsRow b T E.size v xss.length cs) (h2:ListR E w (FreshIn b w v) xss cs) (hls:ListR E w (FreshIn b w v) yss rs)
  (h3:w'.ownsRow b T E.size v' (xss.length + yss.length) (cs ++ rs)) (h4:w.grownBy w' v.ownBlock) (h5:v'.ownBlock = v.ownBlock∨v'.ownBlock = some w.heap.size):OwnE E T w' b (xss ++ yss) v':=by
 refine ⟨cs ++ rs,by rw [List.length_append];exact h3,?_⟩
 refine (h2.append hls).keep (S:=FreshIn b w v) (fun p hp=>World.cell?_of_block (h4.block p.block hp.2.1 hp.2.2)) (fun k hk=>⟨hk.1,Nat.lt_of_lt_of_le hk.2.1 h4.size,?_⟩)
 rcases h5 with h5 | h5
 ·rw [h5];exact hk.2.2
 ·rw [h5];intro e;injection e with e;have:=hk.2.1;omega
end
end Go.Proofs.Ythpngeboknmllaa
