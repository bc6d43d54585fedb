/- Texts put together. -/
import Derived.Test.YtbjcioknfjofkaaGreatMComposeReinsert37
import Derived.Test.YtbjcioknfjofkaaGreatMComposeReinsert42
set_option linter.unusedVariables false
set_option linter.unusedSimpArgs false
namespace Go.Proofs.YtbjcioknfjofkaaGreat
open Go.RowKit
theorem repl_twice (t:Tree) (i:Nat) (a b:Tree):replS (replS t i a) i b = replS t i b:=by
 show Tree.mk _ _ _ ((t.kids.set i a).set i b) = Tree.mk _ _ _ (t.kids.set i b)
 rw [List.set_set];rfl
theorem repl_self {t:Tree} {i:Int} (h:i.toNat < t.kids.length):replS t i.toNat (kidS t i) = t:=by
 rw [kid_get h]
 obtain ⟨k,s,c,ts⟩:=t
 have h':i.toNat < ts.length:=h
 have e:ts.set i.toNat (ts[i.toNat]'h') = ts:=List.set_getElem_self h'
 exact congrArg (Tree.mk k s c) e
theorem put_put : (q : List Int) → (t : Tree) → (a b : List Tree) → (findS t q).2 = true → putS (putS t q a) q b = putS t q b
  | [], t, a, b, _ => rfl
  | [_], t, a, b, h => by simp [findS] at h
  | i :: k :: q, t, a, b, h => by
    obtain ⟨hi, hk, he⟩ := find_step t i k q h
    rw [he] at h
    rw [putS, putS, putS, replS_same hi.2, replS_same hk.2, put_put q _ a b h, repl_twice, repl_twice]
theorem put_self : (q : List Int) → (t : Tree) → (l : List Tree) → (findS t q).2 = true → (findS t q).1 = rowT l → putS t q l = t
  | [], t, l, _, h => by
    show rowT l = t
    exact h.symm
  | [_], t, l, h, _ => by simp [findS] at h
  | i :: k :: q, t, l, h, hl => by
    obtain ⟨hi, hk, he⟩ := find_step t i k q h
    rw [he] at h hl
    rw [putS, put_self q _ l h hl, repl_self hk.2, repl_self hi.2]
theorem dels_apply {t : Tree} {q : List Int} {its l : List Tree} {a b : Nat} (hv : validS t = true) (hf : (findS t q).2 = true) (hi : its = (findS t q).1.kids) (hab : a < b) (hb : b ≤ its.length) (hl : l = (its.take b).drop a) : applyS t (delOp q (a : Int) l) = (putS t q (spliceS its a b []), 0) := by
  have hln : l.length = b - a := by rw [hl]; simp; omega
  have hsub : l.Sublist its := by rw [hl]; exact (List.drop_sublist _ _).trans (List.take_sublist _ _)
  have hsp : (spliceS its a b []).Sublist its := by
    unfold spliceS
    rw [List.append_nil]
    have h := List.Sublist.append (List.Sublist.refl (its.take a)) (List.drop_sublist_drop_left its (Nat.le_of_lt hab))
    rwa [List.take_append_drop] at h
  have h := applyS_of (t := t) (op := delOp q (a : Int) l) (l := spliceS its a b []) hv hf ?_ ?_ (put_sub hv hf hi hsp)
  · exact h
  · unfold formedS delOp
    simp only [or_true, if_true, Bool.and_eq_true, decide_eq_true_eq]
    exact ⟨by omega, items_valid hv hf hi hsub, trivial, trivial, noT_empty, noT_empty⟩
  · show changeS (findS t q).1.kids _ = _
    rw [← hi]
    unfold changeS delOp needS
    simp only
    rw [if_neg (by simp; omega), if_neg (by simp), if_pos (by trivial), if_pos ?_]
    · rw [show ((a : Int) + (l.length : Int)).toNat = b by omega, Int.toNat_natCast]
    · rw [show ((a : Int) + (l.length : Int)).toNat = b by omega, Int.toNat_natCast, ← hl]
      unfold sameS
      have e2 : ∀ l : List Tree, eqsS l l = true := fun l => by
        induction l with
        | nil => rfl
        | cons x l ih =>
          show (eqS x x && eqsS l l) = true
          rw [ih, (eqS_iff x x).2 rfl]; rfl
      simp [e2]
theorem inss_apply {t:Tree} {q:List Int} {its l:List Tree} {a:Nat} (hv:validS t = true) (hf:(findS t q).2 = true) (hi:its = (findS t q).1.kids) (ha:a≤its.length) (hl:0 < l.length) (hlv:validS (rowT l) = true) (hv':validS (putS t q (spliceS its a a l)) = true):applyS t (insOp q (a:Int) l) = (putS t q (spliceS its a a l),0):=by
 have h:=applyS_of (t:=t) (op:=insOp q (a:Int) l) (l:=spliceS its a a l) hv hf ?_ ?_ hv'
 ·exact h
 ·unfold formedS insOp
  simp only [true_or,if_true,Bool.and_eq_true,decide_eq_true_eq]
  exact ⟨hl,hlv,trivial,trivial,noT_empty,noT_empty⟩
 ·show changeS (findS t q).1.kids _ = _
  rw [← hi]
  unfold changeS insOp needS
  simp only
  rw [if_neg (by simp;omega),if_pos (by trivial),Int.toNat_natCast]
theorem go_two {t u m:Tree} {a b:OpD} (hv:validS t = true) (h1:applyS t a = (u,0)) (h2:applyS u b = (m,0)):applyAllS t [a,b] = (m,0):=by
 unfold applyAllS
 rw [if_neg (by simp [hv]),goS,h1,if_neg (by simp),goS,h2,if_neg (by simp),goS]
theorem reinsert {t:Tree} {p m rr:List Int} {ra rb:Int} (h:ofS t p m = ((rr,ra,rb),0)):∃ ops,cinsertS t p m (itemsR t rr ra rb).1 = (⟨ops,p,m,rr ++ [ra + ((itemsR t rr ra rb).1.length:Int)],[]⟩,0)∧applyAllS t ops = (t,0)∧ops.length≤2:=by
 obtain ⟨hv,_,_,hf,h0,h1,h2⟩:=of_ok (t:=t) (p:=p) (m:=m) (by rw [h])
 have hit:=items_of (t:=t) (p:=p) (m:=m) (by rw [h])
 rw [h] at hf h0 h1 h2 hit
 simp only at hf h0 h1 h2 hit
 obtain ⟨its,hi⟩:∃ its,its = (findS t rr).1.kids:=⟨_,rfl⟩
 obtain ⟨a,rfl⟩:∃ a:Nat,ra = (a:Int):=⟨ra.toNat,by omega⟩
 obtain ⟨b,rfl⟩:∃ b:Nat,rb = (b:Int):=⟨rb.toNat,by omega⟩
 have hl:(itemsR t rr (a:Int) (b:Int)).1 = (its.take b).drop a:=by
  unfold itemsR
  rw [rowRes_ok hv hf,if_neg (by simp),if_neg (by simp only;omega),hi]
  simp
 obtain ⟨l,hl2⟩:∃ l,l = (itemsR t rr (a:Int) (b:Int)).1:=⟨_,rfl⟩
 have hll:l = (its.take b).drop a:=hl2.trans hl
 have hsub:l.Sublist its:=by rw [hll];exact (List.drop_sublist _ _).trans (List.take_sublist _ _)
 have hlv:=items_valid hv hf hi hsub
 have hb:b≤its.length:=by rw [hi];omega
 have hln:l.length = b - a:=by rw [hll];simp;omega
 have hrow:=find_rowT hv hf
 rw [← hl2]
 have hc:∀ ops m',applyAllS t ops = (m',0)→(cutS t (rr,(a:Int),(b:Int)) ++ if l.length = 0 then [] else [insOp rr (a:Int) l]) = ops→cinsertS t p m l = (⟨ops,p,m,rr ++ [(a:Int) + (l.length:Int)],[]⟩,0):=fun ops m' h3 h4=>by
  unfold cinsertS
  rw [h]
  simp only
  rw [if_neg (by simp [hv,hlv]),if_neg (by simp),h4]
  unfold doneS
  rw [h3,if_pos rfl]
 by_cases hab:a < b
 ·have hd:=dels_apply hv hf hi hab hb hll
  obtain ⟨u,hu⟩:∃ u,putS t rr (spliceS its a b []) = u:=⟨_,rfl⟩
  rw [hu] at hd
  have hfp:=find_put_in rr t (spliceS its a b []) [] hf
  rw [List.append_nil,hu] at hfp
  have hvu:validS u = true:=by
   rw [← hu]
   refine put_sub hv hf hi ?_
   unfold spliceS
   rw [List.append_nil]
   have h:=List.Sublist.append (List.Sublist.refl (its.take a)) (List.drop_sublist_drop_left its (Nat.le_of_lt hab))
   rwa [List.take_append_drop] at h
  have hsp:spliceS (spliceS its a b []) a a l = its:=by
   unfold spliceS
   have hta:(its.take a).length = a:=by simp;omega
   rw [List.append_nil,List.take_left' hta,List.drop_left' hta,hll]
   have e1:its.take b = its.take a ++ (its.take b).drop a:=by
    have h9:=List.take_append_drop a (its.take b)
    rw [List.take_take,Nat.min_eq_left (Nat.le_of_lt hab)] at h9
    exact h9.symm
   rw [← e1,List.take_append_drop]
  have hpp:putS u rr (spliceS (spliceS its a b []) a a l) = t:=by
   rw [hsp,← hu,put_put rr t _ _ hf]
   exact put_self rr t its hf (by rw [hi];exact hrow)
  have hins:=inss_apply (t:=u) (q:=rr) (its:=spliceS its a b []) (l:=l) (a:=a) hvu (by rw [hfp];rfl) (by rw [hfp];rfl) (by unfold spliceS;simp;omega) (by omega) hlv (by rw [hpp];exact hv)
  rw [hpp] at hins
  have h2:=go_two hv hd hins
  refine ⟨_,hc [delOp rr (a:Int) l,insOp rr (a:Int) l] t h2 ?_,h2,by simp⟩
  unfold cutS
  simp only
  rw [← hl2,if_neg (by omega),if_neg (by omega)]
  rfl
 ·have h2:applyAllS t [] = (t,0):=(done_none (p:=p) (mk:=m) (pos:=[]) hv).2
  refine ⟨_,hc [] t h2 ?_,h2,by simp⟩
  unfold cutS
  simp only
  rw [← hl2,if_pos (by omega),if_pos (by omega)]
  rfl
theorem of_facts {t:Tree} {p m rr:List Int} {ra rb:Int} (h:ofS t p m = ((rr,ra,rb),0)) (hpl:p.length≤90000) (hml:m.length≤90000):validS t = true∧rr.length≤90000∧0≤ra∧ra≤rb∧rb≤1000:=by
 obtain ⟨hv,hp,_,f1,f2,f3,f4⟩:=of_ok (t:=t) (p:=p) (m:=m) (by rw [h])
 rw [h] at f1 f2 f3 f4
 simp only at f1 f2 f3 f4
 have hcr:=find_count t rr
 have hlr:=kids_le_count (findS t rr).1
 have hvc:=(valid_count hv).1
 refine ⟨hv,?_,f2,f3,by omega⟩
 have h2:=h
 unfold ofS at h2
 split at h2 <;> unfold betV at h2 <;> split at h2
 ·simp at h2
 ·split at h2
  ·simp at h2
  ·have:=congrArg (fun x=>x.1.1.length) h2
   simp [btS] at this
   omega
 ·simp at h2
 ·split at h2
  ·simp at h2
  ·have:=congrArg (fun x=>x.1.1.length) h2
   simp [btS] at this
   omega
end Go.Proofs.YtbjcioknfjofkaaGreat
