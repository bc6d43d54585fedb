/- Texts put together. -/
import Derived.Test.YtbjcioknfjofkaaGreatMComposeReinsert1
import Derived.Test.YtbjcioknfjofkaaGreatMComposeReinsert5
import Derived.Test.YtbjcioknfjofkaaGreatMComposeReinsert2
import Derived.Test.YtbjcioknfjofkaaGreatMComposeReinsert6
import Derived.Deep.RegionHeld3
import Derived.Deep.DeepCutAuto
import Derived.Deep.QuietTactic
import Derived.BigQuiet
set_option linter.unusedVariables false
set_option linter.unusedSimpArgs false
set_option maxRecDepth 100000
namespace Go.Proofs.YtbjcioknfjofkaaGreat
open Go.RowKit
theorem blA (w:World) (o:Obj):Below w.heap.size w (w.alloc o):=(Below.refl _ _).alloc (Nat.le_refl _) _
theorem blAlloc {W X:World} (h:Below W.heap.size W X) (o:Obj):Below W.heap.size W (X.alloc o):=h.alloc h.size o
theorem blCall {W X Y:World} (h:Below W.heap.size W X) (hb:Below X.heap.size X Y):Below W.heap.size W Y:=h.trans (hb.mono h.size)
theorem newC (W:World) (arr:Array Value) (T:TypeId) (b o:Nat) (hb:b = W.heap.size):(W.alloc (.cells arr T)).cell? ⟨b,o,none⟩ = arr[o]?:=by subst hb;exact World.cell?_alloc_new _ _ _ _
theorem newF (W:World) (arr:Array Value) (T:TypeId) (b o:Nat) (hb:b = W.heap.size):(W.alloc (.cells arr T)).frozen? ⟨b,o,none⟩ = false:=by subst hb;exact World.frozen?_alloc_new _ _ _ _
theorem oldC (W:World) (B:Obj) (b o:Nat) (x:Option Value) (hb:b < W.heap.size) (h:W.cell? ⟨b,o,none⟩ = x):(W.alloc B).cell? ⟨b,o,none⟩ = x:=((blA W B).cell (p:=⟨b,o,none⟩) hb).trans h
theorem cellLt {w:World} {a:Addr} {v:Value} (h:w.cell? a = some v):a.block < w.heap.size:=by
 rcases Nat.lt_or_ge a.block w.heap.size with h1 | h1
 ·exact h1
 ·simp [World.cell?,Array.getElem?_eq_none h1] at h
def TreeP (S:Nat→Prop) (w:World) (t:Tree) (e:Ending) (w':World):Prop :=
 ∃ v,e = .returned (.agg #[.int .i64 t.kind,.string t.text,.int .i64 t.cols,v])∧SliceR treeE w' (fun q=>S q∨w.heap.size≤q∧q < w'.heap.size) t.kids v∧Below w.heap.size w w'
def replS (t:Tree) (i:Nat) (k:Tree):Tree:=.mk t.kind t.text t.cols (t.kids.set i k)
def Box4 (W:World) (b:Nat) (k:Int) (s:ByteArray) (c:Int) (v:Value):Prop :=
 W.cell? ⟨b,0,none⟩ = some (.int .i64 k)∧W.cell? ⟨b,1,none⟩ = some (.string s)∧W.cell? ⟨b,2,none⟩ = some (.int .i64 c)∧W.cell? ⟨b,3,none⟩ = some v
theorem Box4.keep {W W':World} {b:Nat} {k:Int} {s:ByteArray} {c:Int} {v:Value} (h:Box4 W b k s c v) (hk:∀ o,W'.cell? ⟨b,o,none⟩ = W.cell? ⟨b,o,none⟩):Box4 W' b k s c v :=
 ⟨(hk 0).trans h.1,(hk 1).trans h.2.1,(hk 2).trans h.2.2.1,(hk 3).trans h.2.2.2⟩
theorem Box4.below {W W':World} {B b:Nat} {k:Int} {s:ByteArray} {c:Int} {v:Value} (h:Box4 W b k s c v) (hb:Below B W W') (hB:b < B):Box4 W' b k s c v:=h.keep fun o=>hb.cell (p:=⟨b,o,none⟩) hB
theorem Box4.new (w:World) (k:Int) (s:ByteArray) (c:Int) (v:Value) (T:TypeId):Box4 (w.alloc (Obj.cells #[.int .i64 k,.string s,.int .i64 c,v] T)) w.heap.size k s c v:=by
 refine ⟨?_,?_,?_,?_⟩ <;> rw [World.cell?_alloc_new] <;> rfl
def Free4 (W:World) (b:Nat):Prop:=W.frozen? ⟨b,0,none⟩ = false∧W.frozen? ⟨b,1,none⟩ = false∧W.frozen? ⟨b,2,none⟩ = false∧W.frozen? ⟨b,3,none⟩ = false
theorem Free4.new (w:World) (arr:Array Value) (T:TypeId):Free4 (w.alloc (Obj.cells arr T)) w.heap.size :=
 ⟨newF _ _ _ _ _ rfl,newF _ _ _ _ _ rfl,newF _ _ _ _ _ rfl,newF _ _ _ _ _ rfl⟩
theorem Free4.below {W W':World} {B b:Nat} (h:Free4 W b) (hb:Below B W W') (hB:b < B):Free4 W' b :=
 ⟨(hb.frozen (p:=⟨b,0,none⟩) hB).trans h.1,(hb.frozen (p:=⟨b,1,none⟩) hB).trans h.2.1,(hb.frozen (p:=⟨b,2,none⟩) hB).trans h.2.2.1,(hb.frozen (p:=⟨b,3,none⟩) hB).trans h.2.2.2⟩
theorem OwnT.rowsN {w:World} {b:Nat} {S:Nat→Prop} {ts:List Tree} {v:Value} (h:OwnT w b S ts v):SliceR treeE w (fun q=>S q∨b≤q∧q < w.heap.size) ts v:=by
 obtain ⟨cs,h1,h2⟩:=h
 exact SliceR.of_own (E:=treeE) h1 (fun k hk=>.inr (h1.lt k hk)) (h2.keep (sameRefl _ _) (fun _ h=>.inl h))
theorem newer {w w':World} {S:Nat→Prop} {b:Nat} {l:List Tree} {v:Value} (h:SliceR treeE w (fun q=>S q∨b≤q∧q < w.heap.size) l v) (hS:∀ q,S q→q < w.heap.size) (hb:Below w.heap.size w w'):SliceR treeE w' (fun q=>S q∨b≤q∧q < w'.heap.size) l v :=
 h.keep (fun q hq=>hb.cell (by rcases hq with hq | hq;exact hS _ hq;exact hq.2)) (fun q hq=>by rcases hq with hq | hq;exact .inl hq;exact .inr ⟨hq.1,Nat.lt_of_lt_of_le hq.2 hb.size⟩)
def filledS (t:Tree) (i:Nat) (l:List Tree):Tree:=replS t i (rowT l)
theorem blDrew {W X:World} (h:Below W.heap.size W X):Below W.heap.size W X.drew:=⟨h.os,h.tape,h.output,h.size,h.block⟩
theorem ofDrew {w w':World} {B:Nat} (h:Below B w.drew w'):Below B w w':=⟨h.os,h.tape,h.output,h.size,h.block⟩
def spliceS (l:List Tree) (a b:Nat) (by_:List Tree):List Tree:=l.take a ++ by_ ++ l.drop b
def ListP (S:Nat→Prop) (w:World) (L:List Tree) (e:Ending) (w':World):Prop :=
 ∃ v,e = .returned v∧SliceR treeE w' (fun q=>S q∨w.heap.size≤q∧q < w'.heap.size) L v∧Below w.heap.size w w'
end Go.Proofs.YtbjcioknfjofkaaGreat
namespace Go.Proofs.YtbjcioknfjofkaaGreat
theorem Tree.ind' {P : Tree → Prop} (h : ∀ t : Tree, (∀ k ∈ t.kids, ∀ u ∈ k.kids, P u) → P t) : ∀ t, P t := by
  intro t
  have : ∀ (n : Nat) (t : Tree), countS t ≤ n → P t := by
    intro n
    induction n with
    | zero => intro t ht; have : 0 < countS t := by cases t; rw [countS]; omega
              omega
    | succ n ih =>
      intro t ht
      have key : ∀ (ts : List Tree), ∀ k ∈ ts, countS k ≤ countsS ts := by
        intro ts
        induction ts with
        | nil => simp
        | cons u us ih => intro k hk; rw [countsS]; rcases List.mem_cons.1 hk with rfl | hk
                          · omega
                          · have := ih k hk; omega
      refine h t fun k hk u hu => ih u ?_
      cases t with
      | mk a b c ts => cases k with
        | mk a' b' c' us =>
        rw [countS] at ht
        have h1 := key ts _ hk
        rw [countS] at h1
        have h2 := key us u hu
        omega
  exact this _ t (Nat.le_refl _)
mutual
def allS (path:List Int):Tree→List (List Int)
 | .mk _ _ _ ts=>itemsS path 0 ts
def itemsS (path:List Int) (i:Nat):List Tree→List (List Int)
 | []=>[path ++ [(i:Int)]]
 | .mk _ _ _ us :: ts=>(path ++ [(i:Int)]) :: (slotsS path i 0 us ++ itemsS path (i + 1) ts)
def slotsS (path:List Int) (i k:Nat):List Tree→List (List Int)
 | []=>[]
 | u :: us=>allS (path ++ [(i:Int),(k:Int)]) u ++ slotsS path i (k + 1) us
end
theorem allS_eq (path:List Int) (t:Tree):allS path t = itemsS path 0 t.kids:=by cases t;rw [allS];rfl
theorem itemsS_cons (path:List Int) (i:Nat) (t:Tree) (ts:List Tree):itemsS path i (t :: ts) = (path ++ [(i:Int)]) :: (slotsS path i 0 t.kids ++ itemsS path (i + 1) ts):=by cases t;rw [itemsS];rfl
def posIn : Tree → List Int → Bool
  | t, i :: k :: p =>
    if hi : 0 ≤ i ∧ i.toNat < t.kids.length then
      if hk : 0 ≤ k ∧ k.toNat < (t.kids[i.toNat]'hi.2).kids.length then posIn ((t.kids[i.toNat]'hi.2).kids[k.toNat]'hk.2) p else false
    else false
  | t, [i] => decide (0 ≤ i ∧ i ≤ t.kids.length)
  | _, [] => false
theorem mem_slots (path : List Int) (i : Nat) (q : List Int) : ∀ (us : List Tree) (k : Nat), q ∈ slotsS path i k us ↔ ∃ (j : Nat) (h : j < us.length), q ∈ allS (path ++ [(i : Int), ((k + j : Nat) : Int)]) us[j] := by
  intro us
  induction us with
  | nil => intro k; simp [slotsS]
  | cons u us ih =>
    intro k
    rw [slotsS, List.mem_append, ih]
    constructor
    · rintro (h | ⟨j, h, hq⟩)
      · exact ⟨0, by simp, by simpa using h⟩
      · refine ⟨j + 1, by simpa using h, ?_⟩
        rw [show k + (j + 1) = k + 1 + j by omega]; simpa using hq
    · rintro ⟨j, h, hq⟩
      cases j with
      | zero => left; simpa using hq
      | succ j => right; refine ⟨j, by simpa using h, ?_⟩; rw [show k + 1 + j = k + (j + 1) by omega]; simpa using hq
theorem mem_items (path : List Int) (q : List Int) : ∀ (ts : List Tree) (i : Nat), q ∈ itemsS path i ts ↔ (∃ j, j ≤ ts.length ∧ q = path ++ [((i + j : Nat) : Int)]) ∨ ∃ (j : Nat) (h : j < ts.length), q ∈ slotsS path (i + j) 0 ts[j].kids := by
  intro ts
  induction ts with
  | nil =>
    intro i
    simp only [itemsS, List.mem_singleton, List.length_nil]
    constructor
    · intro h; exact .inl ⟨0, Nat.le_refl _, h⟩
    · rintro (⟨j, hj, h⟩ | ⟨j, hj, _⟩)
      · obtain rfl : j = 0 := by omega
        exact h
      · omega
  | cons t ts ih =>
    intro i
    rw [itemsS_cons, List.mem_cons, List.mem_append, ih]
    constructor
    · rintro (h | h | ⟨j, hj, h⟩ | ⟨j, hj, h⟩)
      · exact .inl ⟨0, by simp, h⟩
      · exact .inr ⟨0, by simp, by simpa using h⟩
      · exact .inl ⟨j + 1, by simpa using hj, by rw [h, show i + (j + 1) = i + 1 + j by omega]⟩
      · refine .inr ⟨j + 1, by simpa using hj, ?_⟩
        rw [show i + (j + 1) = i + 1 + j by omega]; simpa using h
    · rintro (⟨j, hj, h⟩ | ⟨j, hj, h⟩)
      · cases j with
        | zero => exact .inl h
        | succ j => exact .inr (.inr (.inl ⟨j, by simpa using hj, by rw [h, show i + (j + 1) = i + 1 + j by omega]⟩))
      · cases j with
        | zero => exact .inr (.inl (by simpa using h))
        | succ j =>
          refine .inr (.inr (.inr ⟨j, by simpa using hj, ?_⟩))
          rw [show i + 1 + j = i + (j + 1) by omega]; simpa using h
theorem mem_allS (t : Tree) : ∀ (path q : List Int), q ∈ allS path t ↔ ∃ r, q = path ++ r ∧ posIn t r = true := by
  induction t using Tree.ind' with
  | h t ih =>
  intro path q
  rw [allS_eq, mem_items]
  constructor
  · rintro (⟨j, hj, rfl⟩ | ⟨j, hj, h⟩)
    · exact ⟨_, rfl, by simp only [posIn, decide_eq_true_eq]; omega⟩
    · rw [mem_slots] at h
      obtain ⟨k, hk, h⟩ := h
      rw [ih t.kids[j] (List.getElem_mem hj) _ (List.getElem_mem hk)] at h
      obtain ⟨r, rfl, hr⟩ := h
      refine ⟨((0 + j : Nat) : Int) :: ((0 + k : Nat) : Int) :: r, by simp, ?_⟩
      simp only [Nat.zero_add, posIn, Int.natCast_nonneg, Int.toNat_natCast, true_and, hj, hk, dif_pos]
      exact hr
  · rintro ⟨r, rfl, hr⟩
    match r, hr with
    | [i], hr =>
      simp only [posIn, decide_eq_true_eq] at hr
      exact .inl ⟨i.toNat, by omega, by rw [show ((0 + i.toNat : Nat) : Int) = i by omega]⟩
    | i :: k :: r, hr =>
      simp only [posIn] at hr
      split at hr
      · rename_i hi
        split at hr
        · rename_i hk
          refine .inr ⟨i.toNat, hi.2, ?_⟩
          rw [mem_slots]
          refine ⟨k.toNat, hk.2, ?_⟩
          rw [ih _ (List.getElem_mem hi.2) _ (List.getElem_mem hk.2)]
          exact ⟨r, by rw [show ((0 + i.toNat : Nat) : Int) = i by omega, show ((0 + k.toNat : Nat) : Int) = k by omega]; simp, hr⟩
        · cases hr
      · cases hr
    | [], hr => simp [posIn] at hr
theorem mem_all {t:Tree} {q:List Int}:q ∈ allS [] t ↔ posIn t q = true:=by rw [mem_allS];simp
theorem cmpS_append:∀ (p a b:List Int),cmpS (p ++ a) (p ++ b) = cmpS a b
 | [],a,b=>rfl
 | x :: p,a,b=>by rw [List.cons_append,List.cons_append,cmpS,if_neg (by omega),if_neg (by omega)];exact cmpS_append p a b
theorem cmpS_self:∀ a,cmpS a a = 0
 | []=>rfl
 | x :: a=>by rw [cmpS,if_neg (by omega),if_neg (by omega)];exact cmpS_self a
theorem cmpS_swap : ∀ a b, cmpS b a = - cmpS a b
  | [], [] => by simp [cmpS]
  | [], _ :: _ => by simp [cmpS]
  | _ :: _, [] => by simp [cmpS]
  | x :: a, y :: b => by
    have ih := cmpS_swap a b
    rw [cmpS, cmpS]
    by_cases h1 : x < y
    · rw [if_neg (by omega), if_pos h1, if_pos h1]; rfl
    · by_cases h2 : y < x
      · rw [if_pos h2, if_neg h1, if_pos h2]
      · rw [if_neg h2, if_neg h1, if_neg h1, if_neg h2, ih]
def ltS (a b:List Int):Prop:=cmpS a b < 0
theorem items_form (path:List Int):∀ (ts:List Tree) (i:Nat) (q:List Int),q ∈ itemsS path i ts→∃ (x:Int) (r:List Int),q = path ++ x :: r∧(i:Int)≤x:=by
 intro ts i q h
 rw [mem_items] at h
 rcases h with ⟨j,_,rfl⟩ | ⟨j,hj,h⟩
 ·exact ⟨_,[],rfl,by omega⟩
 ·rw [mem_slots] at h
  obtain ⟨k,hk,h⟩:=h
  rw [mem_allS] at h
  obtain ⟨r,rfl,_⟩:=h
  exact ⟨((i + j:Nat):Int),_,by simp only [List.append_assoc,List.cons_append,List.nil_append];rfl,by omega⟩
theorem slots_form (path:List Int) (i k:Nat) (us:List Tree) (q:List Int) (h:q ∈ slotsS path i k us):∃ (y:Int) (r:List Int),q = path ++ (i:Int) :: y :: r∧(k:Int)≤y:=by
 rw [mem_slots] at h
 obtain ⟨j,hj,h⟩:=h
 rw [mem_allS] at h
 obtain ⟨r,rfl,_⟩:=h
 exact ⟨((k + j:Nat):Int),r,by simp,by omega⟩
mutual
theorem allS_sorted (path : List Int) : (t : Tree) → (allS path t).Pairwise ltS
  | .mk _ _ _ ts => by rw [allS]; exact itemsS_sorted path 0 ts
theorem itemsS_sorted (path : List Int) (i : Nat) : (ts : List Tree) → (itemsS path i ts).Pairwise ltS
  | [] => by rw [itemsS]; exact List.pairwise_singleton _ _
  | .mk _ _ _ us :: ts => by
    rw [itemsS, List.pairwise_cons]
    refine ⟨fun q hq => ?_, ?_⟩
    · rcases List.mem_append.1 hq with hq | hq
      · obtain ⟨y, r, rfl, _⟩ := slots_form path i 0 us q hq
        unfold ltS; rw [cmpS_append, cmpS, if_neg (by omega), if_neg (by omega), cmpS]; decide
      · obtain ⟨x, r, rfl, hx⟩ := items_form path ts (i + 1) q hq
        unfold ltS; rw [cmpS_append, cmpS, if_pos (by omega)]; decide
    · rw [List.pairwise_append]
      refine ⟨slotsS_sorted path i 0 us, itemsS_sorted path (i + 1) ts, fun a ha b hb => ?_⟩
      obtain ⟨y, r, rfl, _⟩ := slots_form path i 0 us a ha
      obtain ⟨x, s, rfl, hx⟩ := items_form path ts (i + 1) b hb
      unfold ltS; rw [cmpS_append, cmpS, if_pos (by omega)]; decide
theorem slotsS_sorted (path : List Int) (i k : Nat) : (us : List Tree) → (slotsS path i k us).Pairwise ltS
  | [] => by rw [slotsS]; exact List.Pairwise.nil
  | u :: us => by
    rw [slotsS, List.pairwise_append]
    refine ⟨allS_sorted _ u, slotsS_sorted path i (k + 1) us, fun a ha b hb => ?_⟩
    rw [mem_allS] at ha
    obtain ⟨r, rfl, _⟩ := ha
    obtain ⟨y, s, rfl, hy⟩ := slots_form path i (k + 1) us b hb
    unfold ltS; rw [List.append_assoc, cmpS_append]; show cmpS ((i : Int) :: (k : Int) :: r) _ < 0
    rw [cmpS, if_neg (by omega), if_neg (by omega), cmpS, if_pos (by omega)]; decide
end
mutual
def cntS:Tree→Nat
 | .mk _ _ _ ts=>itemsC ts
def itemsC:List Tree→Nat
 | []=>1
 | .mk _ _ _ us :: ts=>1 + (slotsC us + itemsC ts)
def slotsC:List Tree→Nat
 | []=>0
 | u :: us=>cntS u + slotsC us
end
mutual
theorem allS_len (path:List Int):(t:Tree)→(allS path t).length = cntS t
 | .mk _ _ _ ts=>by rw [allS,cntS];exact itemsS_len path 0 ts
theorem itemsS_len (path:List Int) (i:Nat):(ts:List Tree)→(itemsS path i ts).length = itemsC ts
 | []=>by rw [itemsS,itemsC];rfl
 | .mk _ _ _ us :: ts=>by rw [itemsS,itemsC,List.length_cons,List.length_append,slotsS_len path i 0 us,itemsS_len path (i + 1) ts];omega
theorem slotsS_len (path:List Int) (i k:Nat):(us:List Tree)→(slotsS path i k us).length = slotsC us
 | []=>by rw [slotsS,slotsC];rfl
 | u :: us=>by rw [slotsS,slotsC,List.length_append,allS_len _ u,slotsS_len path i (k + 1) us]
end
mutual
theorem cntS_le:(t:Tree)→cntS t≤2 * countS t
 | .mk _ _ _ ts=>by rw [cntS,countS];have:=itemsC_le ts;omega
theorem itemsC_le:(ts:List Tree)→itemsC ts≤1 + 2 * countsS ts
 | []=>by rw [itemsC];omega
 | .mk _ _ _ us :: ts=>by rw [itemsC,countsS,countS];have:=slotsC_le us;have:=itemsC_le ts;omega
theorem slotsC_le:(us:List Tree)→slotsC us≤2 * countsS us
 | []=>by rw [slotsC];omega
 | u :: us=>by rw [slotsC,countsS];have:=cntS_le u;have:=slotsC_le us;omega
end
theorem depthS_kid {t:Tree} {j:Nat} (h:j < t.kids.length):depthS t.kids[j] + 1≤depthS t:=by
 obtain ⟨_,_,_,ts⟩:=t
 simp only [Tree.kids] at *
 rw [depthS]
 have h1:=depthsS_append (ts.take j) (ts.drop j)
 rw [List.take_append_drop,List.drop_eq_getElem_cons (show j < ts.length from h),depthsS] at h1
 omega
theorem countS_kid {t:Tree} {j:Nat} (h:j < t.kids.length):countS t.kids[j] + 1≤countS t:=by
 obtain ⟨_,_,_,ts⟩:=t
 simp only [Tree.kids] at *
 rw [countS]
 have h1:=countsS_append (ts.take j) (ts.drop j)
 rw [List.take_append_drop,List.drop_eq_getElem_cons (show j < ts.length from h),countsS] at h1
 omega
theorem kids_le_count (t:Tree):t.kids.length + 1≤countS t:=by
 obtain ⟨_,_,_,ts⟩:=t
 simp only [Tree.kids]
 rw [countS]
 have:ts.length≤countsS ts:=by
  induction ts with
  | nil=>simp
  | cons u us ih=>obtain ⟨_,_,_,vs⟩:=u;rw [countsS,countS,List.length_cons];omega
 omega
theorem posIn_bd (t : Tree) : ∀ (q : List Int), posIn t q = true → q.length ≤ depthS t ∧ ∀ x ∈ q, 0 ≤ x ∧ x ≤ countS t := by
  induction t using Tree.ind' with
  | h t ih =>
  intro q hq
  have hkc := kids_le_count t
  match q, hq with
  | [i], hq =>
    simp only [posIn, decide_eq_true_eq] at hq
    refine ⟨?_, by simp; omega⟩
    obtain ⟨_, _, _, ts⟩ := t
    rw [depthS]; simp
  | i :: k :: r, hq =>
    simp only [posIn] at hq
    split at hq
    · rename_i hi
      split at hq
      · rename_i hk
        obtain ⟨h1, h2⟩ := ih _ (List.getElem_mem hi.2) _ (List.getElem_mem hk.2) r hq
        have d1 := depthS_kid hi.2
        have d2 := depthS_kid hk.2
        have c1 := countS_kid hi.2
        have c2 := countS_kid hk.2
        have k2 := kids_le_count (t.kids[i.toNat]'hi.2)
        refine ⟨by simp only [List.length_cons]; omega, ?_⟩
        intro x hx
        simp only [List.mem_cons] at hx
        rcases hx with rfl | rfl | hx
        · omega
        · omega
        · have := h2 x hx; omega
      · cases hq
    · cases hq
  | [], hq => simp [posIn] at hq
end Go.Proofs.YtbjcioknfjofkaaGreat
namespace Go.Proofs.YtbjcioknfjofkaaGreat
open Go.RowKit
def Bd (M x:Int):Prop:=-M≤x∧x≤M
theorem rows2 {w w':World} {S:Nat→Prop} {a b:List Int} {va vb:Value} (ha:IntsR w S a va) (hb:IntsR w S b vb) (e:TypeId) (he:w' = w.alloc (.cells #[va,vb] e)) (hS:∀ k,S k→k < w.heap.size) (g:Nat) (hg:g = w.heap.size) :
  SliceR (sliceE intE) w' (Lt w'.heap.size) [a,b] (.slice (some ⟨g,0,none⟩) 2 2):=by
 subst he hg
 have hk:Same S w (w.alloc (.cells #[va,vb] e)):=fun p hp=>World.cell?_alloc_lt w _ p (hS _ hp)
 have hm:∀ k,S k→Lt (w.alloc (.cells #[va,vb] e)).heap.size k:=fun k h=>by have:=hS k h;unfold Lt;simp;omega
 refine ⟨_,_,[va,vb],rfl,Nat.le_refl _,by simp [maxLen],fun _=>⟨w.heap.size,0,rfl,by unfold Lt;simp,fun j u hu=>?_⟩,?_⟩
 ·rw [Nat.zero_add,World.cell?_alloc_new];simpa using hu
 ·exact ⟨[va],_,rfl,⟨va,rfl,ha.keep hk hm⟩,[vb],_,rfl,⟨vb,rfl,hb.keep hk hm⟩,rfl⟩
theorem lt_alloc (w:World) (o:Obj):∀ k,Lt w.heap.size k→Lt (w.alloc o).heap.size k:=fun k h=>by unfold Lt at *;simp;omega
theorem SliceR.alloc {α:Type} {E:Enc α} {w:World} {xs:List α} {v:Value} (h:SliceR E w (Lt w.heap.size) xs v) (o:Obj):SliceR E (w.alloc o) (Lt (w.alloc o).heap.size) xs v :=
 h.keep (fun p hp=>World.cell?_alloc_lt w o p hp) (lt_alloc w o)
theorem below_alloc (w:World) (o:Obj):Below w.heap.size w (w.alloc o):=(Below.refl _ _).alloc (Nat.le_refl _) _
theorem below_draw {B:Nat} {w w':World} (h:Below B w w') (n:Nat):Below B w (w'.drewN n):=h.trans (Below.mono ⟨rfl,rfl,rfl,Nat.le_refl _,fun _ _=>rfl⟩ (Nat.le_refl _))
end Go.Proofs.YtbjcioknfjofkaaGreat
