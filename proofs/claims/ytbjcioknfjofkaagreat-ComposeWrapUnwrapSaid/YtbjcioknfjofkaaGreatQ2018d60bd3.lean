/- Texts put together. -/
import Derived.Test.YtbjcioknfjofkaaGreatQcc5410c87a
import Derived.Test.YtbjcioknfjofkaaGreatQ15a259026b
import Derived.Test.YtbjcioknfjofkaaGreatQ01b1205144
import Derived.Test.YtbjcioknfjofkaaGreatQ765e75d53c
import Derived.Test.YtbjcioknfjofkaaGreatQ6a6e0ab96f
import Derived.Test.YtbjcioknfjofkaaGreatQe4fdb85d6b
import Derived.Test.YtbjcioknfjofkaaGreatQff6f47ccc5
import Derived.Laws.ResultCell
import Derived.Laws.OwnMore
set_option linter.unusedVariables false
set_option linter.unusedSimpArgs false
namespace Go.Proofs.YtbjcioknfjofkaaGreat
open Go.RowKit
theorem slot_empty {item:Tree} {slot:Int} (h:templateS [item] slot = true):∃ s:Nat,slot = (s:Int)∧∃ hs:s < item.kids.length,item.kids[s] = rowT []:=by
 have hv:validS (rowT [item]) = true:=by
  unfold templateS at h
  simp only [Bool.and_eq_true,decide_eq_true_eq] at h
  exact h.2.1
 obtain ⟨t,ht,h0,h1,h2⟩:=template_one h
 obtain rfl:item = t:=by simpa using ht
 refine ⟨slot.toNat,by omega,by omega,?_⟩
 have hs:slot.toNat < item.kids.length:=by omega
 have hf:findS (rowT [item]) [0,slot] = (item.kids[slot.toNat],true):=by
  rw [findS,dif_pos (show 0≤(0:Int)∧(0:Int).toNat < (rowT [item]).kids.length from ⟨by decide,by simp [rowT,Tree.kids]⟩)]
  rw [dif_pos (show 0≤slot∧slot.toNat < ((rowT [item]).kids[(0:Int).toNat]'(by simp [rowT,Tree.kids])).kids.length from ⟨h0,hs⟩)]
  rfl
 have h3:=find_rowT hv (p:=[0,slot]) (by rw [hf])
 rw [hf] at h3
 simp only at h3
 rw [h3]
 have h4:item.kids[slot.toNat].kids = []:=by
  rw [kid_get hs] at h2
  exact List.eq_nil_of_length_eq_zero h2
 rw [h4]
theorem filled_back {item:Tree} {s:Nat} (hs:s < item.kids.length) (he:item.kids[s] = rowT []) (l:List Tree):filledS (filledS item s l) s [] = item:=by
 unfold filledS
 rw [repl_twice,← he]
 unfold replS
 rw [List.set_getElem_self]
 cases item;rfl
theorem filled_kid {item:Tree} {s:Nat} (hs:s < item.kids.length) (l:List Tree):kidS (filledS item s l) (s:Int) = rowT l:=by
 have hkl:(filledS item s l).kids.length = item.kids.length:=by unfold filledS replS;simp [Tree.kids]
 rw [kid_get (by rw [hkl];simpa using hs)]
 simp only [Int.toNat_natCast]
 unfold filledS replS
 simp [Tree.kids]
theorem all_one {t M:Tree} {op:OpD} (hv:validS t = true) (h:applyAllS t [op] = (M,0)):applyS t op = (M,0):=by
 unfold applyAllS at h
 rw [if_neg (by simp [hv]),goS] at h
 by_cases h0:(applyS t op).2 = 0
 ·rw [if_neg (by simp [h0]),goS] at h
  have h1:=congrArg Prod.fst h
  simp only at h1
  exact Prod.ext h1 h0
 ·rw [if_pos h0] at h
  have h1:=congrArg Prod.snd h
  exact absurd h1 h0
theorem wrap_apply {t M:Tree} {rr:List Int} {a n s:Nat} {item:Tree} (hv:validS t = true) (hf:(findS t rr).2 = true) (hab:a + n≤(findS t rr).1.kids.length) (h:applyS t (wrapOp rr (a:Int) (n:Int) [item] (s:Int)) = (M,0)) :
  M = putS t rr (spliceS (findS t rr).1.kids a (a + n) [filledS item s (((findS t rr).1.kids.take (a + n)).drop a)])∧validS M = true:=by
 have hc:changeS (findS t rr).1.kids (wrapOp rr (a:Int) (n:Int) [item] (s:Int)) = (spliceS (findS t rr).1.kids a (a + n) [filledS item s (((findS t rr).1.kids.take (a + n)).drop a)],0):=by
  unfold changeS wrapOp needS
  simp only [List.headD_cons,Int.toNat_natCast]
  rw [if_neg (by simp;omega),if_neg (by decide),if_neg (by decide),if_pos (by trivial),show ((a:Int) + (n:Int)).toNat = a + n by omega]
 unfold applyS at h
 rw [if_neg (by simp [hv])] at h
 split at h
 ·simp at h
 ·change (if (rowRes t rr).2≠0 then _ else _) = _ at h
  rw [show (wrapOp rr (a:Int) (n:Int) [item] (s:Int)).row = rr from rfl] at h
  rw [rowRes_ok hv hf] at h
  simp only [hc] at h
  rw [if_neg (by simp),if_neg (by simp)] at h
  split at h
  ·simp at h
  ·rename_i h9
   have h1:=congrArg Prod.fst h
   simp only at h1
   exact ⟨h1.symm,by rw [← h1];simpa using h9⟩
theorem unwf_apply {t:Tree} {q:List Int} {its l:List Tree} {a s:Nat} {item:Tree} (hv:validS t = true) (hf:(findS t q).2 = true) (hi:its = (findS t q).1.kids) (ha:a < its.length) (ht:templateS [item] (s:Int) = true) (hs:s < item.kids.length) (he:its[a] = filledS item s l) (hv':validS (putS t q (spliceS its a (a + 1) l)) = true) :
  applyS t ⟨4,q,(a:Int),(l.length:Int),[item],(s:Int),noT,noT⟩ = (putS t q (spliceS its a (a + 1) l),0):=by
 have h:=applyS_of (t:=t) (op:=⟨4,q,(a:Int),(l.length:Int),[item],(s:Int),noT,noT⟩) (l:=spliceS its a (a + 1) l) hv hf ?_ ?_ hv'
 ·exact h
 ·unfold formedS
  rw [if_neg (by simp),if_pos (by simp)]
  simp only [Bool.and_eq_true]
  exact ⟨decide_eq_true (by simp),ht,noT_empty,noT_empty⟩
 ·show changeS (findS t q).1.kids _ = _
  rw [← hi]
  have hg:its.getD a zeroT = its[a]:=by rw [List.getD_eq_getElem?_getD,List.getElem?_eq_getElem ha];rfl
  have hkl:(filledS item s l).kids.length = item.kids.length:=by unfold filledS replS;simp [Tree.kids]
  have hk:kidS (filledS item s l) (s:Int) = rowT l:=by
   rw [kid_get (by rw [hkl];simpa using hs)]
   simp only [Int.toNat_natCast]
   unfold filledS replS
   simp [Tree.kids]
  unfold changeS needS
  simp only [Int.toNat_natCast,hg,he,hk,List.headD_cons]
  rw [if_neg (by simp;omega),if_neg (by decide),if_neg (by decide),if_neg (by decide),if_pos (by trivial),if_neg ?_]
  ·rw [show ((a:Int) + 1).toNat = a + 1 by omega]
   rfl
  ·rintro (h | h | h)
   ·omega
   ·exact h rfl
   ·rw [show (rowT l).kids = l from rfl,(eqS_iff _ _).2 rfl] at h;cases h
theorem wrap_unwrap {t M item:Tree} {p m rr:List Int} {ra rb slot:Int} (h:ofS t p m = ((rr,ra,rb),0)) (hform:formedS (wrapOp [] 0 0 [item] slot) = true) (happ:applyAllS t [wrapOp rr ra (rb - ra) [item] slot] = (M,0)) :
  ∃ op pos,cunwrapS M (rr ++ [ra,slot,0]) [] = (⟨[op],rr ++ [ra,slot,0],[],pos,[]⟩,0)∧applyAllS M [op] = (t,0)∧countsS op.nodes≤1000∧op.row = rr∧op.nodes = [item]:=by
 obtain ⟨hv,_,_,hf,h0,h1,h2⟩:=of_ok (t:=t) (p:=p) (m:=m) (by rw [h])
 rw [h] at hf h0 h1 h2
 simp only at hf h0 h1 h2
 have ht:templateS [item] slot = true:=by
  unfold formedS wrapOp at hform
  rw [if_neg (by simp),if_pos (by simp)] at hform
  simp only [Bool.and_eq_true] at hform
  exact hform.2.1
 obtain ⟨s,rfl,hs,he⟩:=slot_empty ht
 obtain ⟨a,rfl⟩:∃ a:Nat,ra = (a:Int):=⟨ra.toNat,by omega⟩
 obtain ⟨n,hn⟩:∃ n:Nat,rb - (a:Int) = (n:Int):=⟨(rb - a).toNat,by omega⟩
 rw [hn] at happ
 obtain ⟨hM,hvM⟩:=wrap_apply hv hf (by omega) (all_one hv happ)
 obtain ⟨its,hi⟩:∃ its,its = (findS t rr).1.kids:=⟨_,rfl⟩
 obtain ⟨l,hl⟩:∃ l,l = (its.take (a + n)).drop a:=⟨_,rfl⟩
 obtain ⟨X,hX⟩:∃ X,X = filledS item s l:=⟨_,rfl⟩
 have hb:a + n≤its.length:=by rw [hi];omega
 have hln:l.length = n:=by rw [hl];simp;omega
 rw [← hi,← hl,← hX] at hM
 have hta:(its.take a).length = a:=by simp;omega
 have hfp:∀ q,findS M (rr ++ q) = findS (rowT (spliceS its a (a + n) [X])) q:=fun q=>by rw [hM];exact find_put_in rr t _ q hf
 have hfr:=hfp []
 rw [List.append_nil] at hfr
 have hfr2:findS M rr = (rowT (spliceS its a (a + n) [X]),true):=by rw [hfr];rfl
 have hsl:a < (spliceS its a (a + n) [X]).length:=by unfold spliceS;simp;omega
 have hsx0:(spliceS its a (a + n) [X])[a]? = some X:=by
  unfold spliceS
  rw [List.append_assoc,List.getElem?_append_right (by omega),hta]
  simp
 have hsx:(spliceS its a (a + n) [X])[a]'hsl = X:=by
  rw [List.getElem?_eq_getElem hsl] at hsx0
  exact Option.some.inj hsx0
 have hXk:X.kids.length = item.kids.length:=by rw [hX];unfold filledS replS;simp [Tree.kids]
 have hXs:kidS X (s:Int) = rowT l:=by rw [hX];exact filled_kid hs l
 have hka:kidS (rowT (spliceS its a (a + n) [X])) (a:Int) = X:=by
  rw [kid_get (show ((a:Int)).toNat < (spliceS its a (a + n) [X]).length by simpa using hsl)]
  exact hsx
 have hp:posIn M (rr ++ [(a:Int),(s:Int),0]) = true:=by
  rw [pos_row (by rw [hfr2]) (its:=spliceS its a (a + n) [X]) (by rw [hfr2];rfl),posIn_step,hka,hXs,posIn_one]
  simp only [Bool.and_eq_true,decide_eq_true_eq]
  have:=hXk
  exact ⟨⟨by omega,show ((a:Int)).toNat < (spliceS its a (a + n) [X]).length by simpa using hsl⟩,⟨by omega,by omega⟩,by omega,by omega⟩
 have hpp:rr ++ [(a:Int),(s:Int),0] = rr ++ [(a:Int),(s:Int)] ++ [0]:=by simp
 rw [hpp] at hp ⊢
 have hof:=of_self hvM hp
 have har:=aro_of hvM hp
 rw [hfr2] at har
 simp only at har
 rw [hka] at har
 have hu:unwS ⟨rr,(a:Int),(s:Int),X⟩ = ⟨4,rr,(a:Int),(l.length:Int),[item],(s:Int),noT,noT⟩:=by
  unfold unwS
  simp only [hXs,Int.toNat_natCast]
  rw [hX,filled_back hs he]
  rfl
 have hback:putS M rr (spliceS (spliceS its a (a + n) [X]) a (a + 1) l) = t:=by
  have hsp:spliceS (spliceS its a (a + n) [X]) a (a + 1) l = its:=by
   unfold spliceS
   rw [show (its.take a ++ [X] ++ its.drop (a + n)).take a = its.take a by rw [List.append_assoc,List.take_left' hta],show (its.take a ++ [X] ++ its.drop (a + n)).drop (a + 1) = its.drop (a + n) from List.drop_left' (by simp;omega),hl]
   have e1:its.take (a + n) = its.take a ++ (its.take (a + n)).drop a:=by
    have h9:=List.take_append_drop a (its.take (a + n))
    rw [List.take_take,Nat.min_eq_left (by omega)] at h9
    exact h9.symm
   rw [← e1,List.take_append_drop]
  rw [hsp,hM,put_put rr t _ _ hf]
  exact put_self rr t its hf (by rw [hi];exact find_rowT hv hf)
 have hap:=unwf_apply (t:=M) (q:=rr) (its:=spliceS its a (a + n) [X]) (l:=l) (a:=a) (s:=s) (item:=item) hvM (by rw [hfr2]) (by rw [hfr2];rfl) hsl ht hs (by rw [hsx,hX]) (by rw [hback];exact hv)
 rw [hback] at hap
 obtain ⟨d1,d2⟩:=done_one (p:=rr ++ [(a:Int),(s:Int)] ++ [0]) (mk:=[]) (pos:=refMapS ⟨4,rr,(a:Int),(l.length:Int),[item],(s:Int),noT,noT⟩ (rr ++ [(a:Int),(s:Int)] ++ [0]) false) hvM hap
 refine ⟨⟨4,rr,(a:Int),(l.length:Int),[item],(s:Int),noT,noT⟩,refMapS ⟨4,rr,(a:Int),(l.length:Int),[item],(s:Int),noT,noT⟩ (rr ++ [(a:Int),(s:Int)] ++ [0]) false,?_,d2,?_,rfl,rfl⟩
 ·unfold cunwrapS
  rw [hof,if_neg (by simp),har]
  simp only
  rw [hu]
  exact d1
 ·have hvi:validS (rowT [item]) = true:=by
   unfold templateS at ht
   simp only [Bool.and_eq_true,decide_eq_true_eq] at ht
   exact ht.2.1
  have h9:=(valid_count hvi).1
  have:countS (rowT [item]) = 1 + countsS [item]:=rfl
  show countsS [item]≤_
  omega
end Go.Proofs.YtbjcioknfjofkaaGreat
