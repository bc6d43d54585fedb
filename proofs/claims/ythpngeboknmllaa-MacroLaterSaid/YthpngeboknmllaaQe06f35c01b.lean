/- Texts put together. -/
import Derived.Test.YthpngeboknmllaaRows
import Derived.WalkKit
import Derived.WalkSpells
import Derived.WalkLawsBesides
import Derived.Handy
import Derived.Maps.AppendAt
import Derived.Deep.AppendLies
import Derived.Deep.Draws
import Derived.Deep.Slices
set_option linter.unusedVariables false
set_option linter.unusedSimpArgs false
namespace Go.Proofs.Ythpngeboknmllaa
open Go.RowKit
theorem hid {p:Prop} (h:p):Hid p:=h
theorem add_of_add (a:Addr) (i j:Nat):(a.add i).add j = a.add (i + j):=by
 unfold Addr.add
 by_cases hi:i = 0 <;> by_cases hj:j = 0 <;> simp [hi,hj,Nat.add_assoc]
def Lt (B k:Nat):Prop:=k < B
theorem Lt.mono {B B':Nat} (h:B≤B'):∀ k,Lt B k→Lt B' k:=fun _ hk=>Nat.lt_of_lt_of_le hk h
def Reads (w:World) (S:Nat→Prop) (A:Option Addr) (cs:List Value):Prop :=
 0 < cs.length→∃ g o,A = some ⟨g,o,none⟩∧S g∧∀ j u,cs[j]? = some u→w.cell? ⟨g,o + j,none⟩ = some u
def Same (S:Nat→Prop) (w w':World):Prop:=∀ p:Addr,S p.block→w'.cell? p = w.cell? p
theorem Same.of_below {B B':Nat} {w w':World} (h:Below B' w w') (hB:B≤B'):Same (Lt B) w w':=fun p hp=>h.cell (Nat.lt_of_lt_of_le hp hB)
section
variable {w w':World} {S S':Nat→Prop} {A:Option Addr} {cs:List Value}
theorem Reads.nil_:Reads w S A []:=fun h=>absurd h (by simp)
theorem Reads.keep (h:Reads w S A cs) (hk:Same S w w') (hB:∀ k,S k→S' k):Reads w' S' A cs:=fun hn=>by
 obtain ⟨g,o,e,hb,hc⟩:=h hn
 exact ⟨g,o,e,hB _ hb,fun j u hu=>(hk _ hb).trans (hc j u hu)⟩
theorem Reads.add (h:Reads w S A cs):∀ ad,A = some ad→∀ j u,cs[j]? = some u→w.cell? (ad.add j) = some u:=by
 intro ad ha j u hu
 have hj:j < cs.length:=(List.getElem?_eq_some_iff.1 hu).1
 obtain ⟨g,o,e,hb,hc⟩:=h (by omega)
 obtain rfl:ad = ⟨g,o,none⟩:=by rw [ha] at e;injection e
 have:=hc j u hu
 unfold Addr.add
 split
 ·subst j;simpa using this
 ·exact this
theorem Reads.some_ (h:Reads w S A cs) (hn:0 < cs.length):∃ ad,A = some ad:=by
 obtain ⟨g,o,e,_⟩:=h hn;exact ⟨_,e⟩
end
structure Enc (α:Type) where
 size:Nat
 R:World→(Nat→Prop)→α→List Value→Prop
 pos:0 < size
 len:∀ {w S x cs},R w S x cs→cs.length = size
 one:∀ {w S x cs},R w S x cs→∀ u ∈ cs,u.oneCell' = true
 keep:∀ {w w' S S' x cs},R w S x cs→Same S w w'→(∀ k,S k→S' k)→R w' S' x cs
section
variable {α:Type} (E:Enc α)
def ListR (w:World) (S:Nat→Prop):List α→List Value→Prop
 | [],cs=>cs = []
 | x :: xs,cs=>∃ h r,cs = h ++ r∧E.R w S x h∧ListR w S xs r
variable {E} {w w':World} {S S':Nat→Prop} {xs ys:List α} {cs ds:List Value}
theorem ListR.len (h : ListR E w S xs cs) : cs.length = xs.length * E.size := by
  induction xs generalizing cs with
  | nil => simp [ListR] at h; simp [h]
  | cons x xs ih =>
    obtain ⟨c, r, rfl, hc, hr⟩ := h
    rw [List.length_append, E.len hc, ih hr, List.length_cons, Nat.add_mul]; omega
theorem ListR.one (h : ListR E w S xs cs) : ∀ u ∈ cs, u.oneCell' = true := by
  induction xs generalizing cs with
  | nil => simp [ListR] at h; simp [h]
  | cons x xs ih =>
    obtain ⟨c, r, rfl, hc, hr⟩ := h
    intro u hu
    rcases List.mem_append.1 hu with h1 | h1
    · exact E.one hc u h1
    · exact ih hr u h1
theorem ListR.keep (h : ListR E w S xs cs) (hk : Same S w w') (hB : ∀ k, S k → S' k) : ListR E w' S' xs cs := by
  induction xs generalizing cs with
  | nil => exact h
  | cons x xs ih =>
    obtain ⟨c, r, rfl, hc, hr⟩ := h
    exact ⟨c, r, rfl, E.keep hc hk hB, ih hr⟩
theorem ListR.append (h : ListR E w S xs cs) (k : ListR E w S ys ds) : ListR E w S (xs ++ ys) (cs ++ ds) := by
  induction xs generalizing cs with
  | nil => simp [ListR] at h; subst h; simpa using k
  | cons x xs ih =>
    obtain ⟨c, r, rfl, hc, hr⟩ := h
    exact ⟨c, r ++ ds, by simp, hc, ih hr⟩
theorem ListR.single {x:α} (h:E.R w S x cs):ListR E w S [x] cs:=⟨cs,[],by simp,h,rfl⟩
theorem ListR.drop (h : ListR E w S xs cs) (k : Nat) : ListR E w S (xs.drop k) (cs.drop (k * E.size)) := by
  induction k generalizing xs cs with
  | zero => simpa using h
  | succ k ih =>
    cases xs with
    | nil => simp [ListR] at h; subst h; simp [ListR]
    | cons x xs =>
      obtain ⟨c, r, rfl, hc, hr⟩ := h
      have := ih hr
      have hl := E.len hc
      rw [List.drop_succ_cons, show (k + 1) * E.size = c.length + k * E.size by rw [hl, Nat.add_mul]; omega, ← List.drop_drop, List.drop_left]
      exact this
theorem ListR.at_ (h:ListR E w S xs cs) {k:Nat} (hk:k < xs.length):∃ c,(cs.drop (k * E.size)).take E.size = c∧E.R w S xs[k] c∧∀ j,j < E.size→cs[k * E.size + j]? = c[j]?:=by
 refine ⟨_,rfl,?_,fun j hj=>?_⟩
 ·have h1:=h.drop k
  rw [List.drop_eq_getElem_cons hk] at h1
  obtain ⟨c,r,e,hc,_⟩:=h1
  rw [e,← E.len hc,List.take_left]
  exact hc
 ·rw [List.getElem?_take,if_pos hj,List.getElem?_drop]
end
def SliceR {α:Type} (E:Enc α) (w:World) (S:Nat→Prop) (xs:List α) (v:Value):Prop :=
 ∃ A cap cs,v = .slice A xs.length cap∧xs.length≤cap∧cap≤maxLen∧Reads w S A cs∧ListR E w S xs cs
section
variable {α:Type} {E:Enc α} {w w':World} {S S':Nat→Prop} {xs ys:List α} {v:Value}
theorem SliceR.keep (h:SliceR E w S xs v) (hk:Same S w w') (hB:∀ k,S k→S' k):SliceR E w' S' xs v:=by
 obtain ⟨A,cap,cs,rfl,h1,h2,h3,h4⟩:=h
 exact ⟨A,cap,cs,rfl,h1,h2,h3.keep hk hB,h4.keep hk hB⟩
theorem SliceR.below {B B':Nat} (h:SliceR E w (Lt B) xs v) (hb:Below B w w') (hB:B≤B'):SliceR E w' (Lt B') xs v:=h.keep (Same.of_below hb (Nat.le_refl _)) (Lt.mono hB)
theorem SliceR.form (h:SliceR E w S xs v):∃ A cap,v = .slice A xs.length cap:=by
 obtain ⟨A,cap,cs,rfl,_⟩:=h;exact ⟨A,cap,rfl⟩
theorem SliceR.nil_ (c:Nat:=0) (hc:c≤maxLen) (A:Option Addr):SliceR E w S [] (.slice A 0 c):=⟨A,c,[],rfl,by simp,hc,Reads.nil_,rfl⟩
theorem SliceR.of_own {base e n:Nat} {cs:List Value} (h:w.ownsRow base e E.size v n cs) (hB:∀ k,v.ownBlock = some k→S k) (hl:ListR E w S xs cs):SliceR E w S xs v:=by
 have hlen:=hl.len
 have hn:n = xs.length:=by
  have:=h.1
  rw [hlen] at this
  exact (Nat.eq_of_mul_eq_mul_right E.pos this).symm
 subst hn
 rcases h.2 with ⟨rfl,h0⟩ | ⟨g,cap,cur,rfl,hg,hh,h1,h2,h3,h4⟩
 ·obtain rfl:xs = []:=List.eq_nil_of_length_eq_zero h0
  exact ⟨none,0,cs,rfl,by simp,by simp,fun hp=>by simp at hlen;simp [hlen] at hp,hl⟩
 ·refine ⟨some ⟨g,0,none⟩,cap,cs,rfl,h1,h2,fun _=>⟨g,0,rfl,hB g rfl,fun j u hu=>?_⟩,hl⟩
  rw [Nat.zero_add,cell_of_row w g j cur e (0,0) hh]
  rw [← h4,List.getElem?_take] at hu
  split at hu
  ·simpa using hu
  ·cases hu
end
def In64 (x:Int):Prop:=-9223372036854775808≤x∧x≤9223372036854775807
inductive Tree where
 | mk (kind:Int) (text:ByteArray) (cols:Int) (kids:List Tree)
namespace Tree
def kind:Tree→Int | mk k _ _ _=>k
def text:Tree→ByteArray | mk _ s _ _=>s
def cols:Tree→Int | mk _ _ c _=>c
def kids:Tree→List Tree | mk _ _ _ ts=>ts
end Tree
mutual
def TreeR (w:World) (S:Nat→Prop):Tree→List Value→Prop
 | .mk k s c ts,cs=>∃ A cap rs,cs = [.int .i64 k,.string s,.int .i64 c,.slice A ts.length cap]∧In64 k∧In64 c∧s.size≤maxLen∧ts.length≤cap∧cap≤maxLen∧Reads w S A rs∧TreesR w S ts rs
def TreesR (w:World) (S:Nat→Prop):List Tree→List Value→Prop
 | [],cs=>cs = []
 | t :: ts,cs=>∃ h r,cs = h ++ r∧TreeR w S t h∧TreesR w S ts r
end
theorem TreeR.len {w:World} {S:Nat→Prop} {t:Tree} {cs:List Value} (h:TreeR w S t cs):cs.length = 4:=by
 cases t;unfold TreeR at h;obtain ⟨A,cap,rs,rfl,_⟩:=h;rfl
theorem TreeR.one {w:World} {S:Nat→Prop} {t:Tree} {cs:List Value} (h:TreeR w S t cs):∀ u ∈ cs,u.oneCell' = true:=by
 cases t;unfold TreeR at h;obtain ⟨A,cap,rs,rfl,_⟩:=h;simp [Value.oneCell']
mutual
theorem TreeR.keep {w w' : World} {S S' : Nat → Prop} (hk : Same S w w') (hB : ∀ k, S k → S' k) : (t : Tree) → (cs : List Value) → TreeR w S t cs → TreeR w' S' t cs
  | .mk k s c ts, cs, h => by
    unfold TreeR at h ⊢
    obtain ⟨A, cap, rs, h1, h2, h3, h4, h5, h6, h7, h8⟩ := h
    exact ⟨A, cap, rs, h1, h2, h3, h4, h5, h6, h7.keep hk hB, TreesR.keep hk hB ts rs h8⟩
theorem TreesR.keep {w w' : World} {S S' : Nat → Prop} (hk : Same S w w') (hB : ∀ k, S k → S' k) : (ts : List Tree) → (cs : List Value) → TreesR w S ts cs → TreesR w' S' ts cs
  | [], cs, h => by unfold TreesR at h ⊢; exact h
  | t :: ts, cs, h => by
    unfold TreesR at h ⊢
    obtain ⟨a, r, h1, h2, h3⟩ := h
    exact ⟨a, r, h1, TreeR.keep hk hB t a h2, TreesR.keep hk hB ts r h3⟩
end
def treeE:Enc Tree where
 size:=4
 R:=TreeR
 pos:=by omega
 len:=TreeR.len
 one:=TreeR.one
 keep:=fun h hk hB=>TreeR.keep hk hB _ _ h
theorem treesR_iff {w : World} {S : Nat → Prop} {ts : List Tree} {cs : List Value} : TreesR w S ts cs ↔ ListR treeE w S ts cs := by
  induction ts generalizing cs with
  | nil => simp [ListR, TreesR]
  | cons t ts ih =>
    unfold TreesR ListR
    simp only [ih]; rfl
theorem treeR_mk {w:World} {S:Nat→Prop} {t:Tree} {cs:List Value}:TreeR w S t cs ↔ ∃ v,cs = [.int .i64 t.kind,.string t.text,.int .i64 t.cols,v]∧In64 t.kind∧In64 t.cols∧t.text.size≤maxLen∧SliceR treeE w S t.kids v:=by
 obtain ⟨k,s,c,ts⟩:=t
 unfold TreeR
 simp only [Tree.kind,Tree.text,Tree.cols,Tree.kids]
 constructor
 ·rintro ⟨A,cap,rs,rfl,h1,h2,h3,h4,h5,h6,h7⟩
  exact ⟨_,rfl,h1,h2,h3,A,cap,rs,rfl,h4,h5,h6,treesR_iff.1 h7⟩
 ·rintro ⟨v,rfl,h1,h2,h3,A,cap,rs,rfl,h4,h5,h6,h7⟩
  exact ⟨A,cap,rs,rfl,h1,h2,h3,h4,h5,h6,treesR_iff.2 h7⟩
abbrev TreesS (w:World) (S:Nat→Prop) (ts:List Tree) (v:Value):Prop:=SliceR treeE w S ts v
section
variable {α:Type} {E:Enc α} {w:World} {S:Nat→Prop} {xs:List α}
theorem slice_at {A:Option Addr} {cs:List Value} (h3:Reads w S A cs) (h4:ListR E w S xs cs) {k:Nat} (hk:k < xs.length) :
  ∃ g o c,A = some ⟨g,o,none⟩∧S g∧E.R w S xs[k] c∧∀ j u,c[j]? = some u→w.cell? ⟨g,o + k * E.size + j,none⟩ = some u:=by
 obtain ⟨c,_,hR,hj⟩:=h4.at_ hk
 have hl:=h4.len
 have hmul:(k + 1) * E.size≤xs.length * E.size:=Nat.mul_le_mul_right _ hk
 rw [Nat.add_mul] at hmul
 have hp:=E.pos
 obtain ⟨g,o,e,hb,hc⟩:=h3 (by omega)
 refine ⟨g,o,c,e,hb,hR,fun j u hu=>?_⟩
 have hjs:j < E.size:=by rw [← E.len hR];exact (List.getElem?_eq_some_iff.1 hu).1
 rw [Nat.add_assoc]
 exact hc _ u (by rw [hj j hjs];exact hu)
end
theorem trees_at {w : World} {S : Nat → Prop} {ts : List Tree} {A : Option Addr} {cs : List Value} (h3 : Reads w S A cs) (h4 : ListR treeE w S ts cs) {k : Nat} (hk : k < ts.length) :
    ∃ g o A' cap' rs, A = some ⟨g, o, none⟩ ∧ S g ∧ w.cell? ⟨g, o + k * 4, none⟩ = some (.int .i64 ts[k].kind) ∧ w.cell? ⟨g, o + k * 4 + 1, none⟩ = some (.string ts[k].text) ∧
      w.cell? ⟨g, o + k * 4 + 2, none⟩ = some (.int .i64 ts[k].cols) ∧ w.cell? ⟨g, o + k * 4 + 3, none⟩ = some (.slice A' ts[k].kids.length cap') ∧
      In64 ts[k].kind ∧ In64 ts[k].cols ∧ ts[k].text.size ≤ maxLen ∧ ts[k].kids.length ≤ cap' ∧ cap' ≤ maxLen ∧ Reads w S A' rs ∧ ListR treeE w S ts[k].kids rs := by
  obtain ⟨g, o, c, e, hb, hR, hc⟩ := slice_at h3 h4 hk
  obtain ⟨v, rfl, h1, h2, h3, A', cap', rs, rfl, h5, h6, h7, h8⟩ := treeR_mk.1 hR
  exact ⟨g, o, A', cap', rs, e, hb, by simpa [treeE] using hc 0 _ rfl, by simpa [treeE] using hc 1 _ rfl, by simpa [treeE] using hc 2 _ rfl, by simpa [treeE] using hc 3 _ rfl, h1, h2, h3, h5, h6, h7, h8⟩
theorem bcell {W w1:World} {B:Nat} (hb:Below B W w1):(∀ b o,b < B→w1.cell? ⟨b,o,none⟩ = W.cell? ⟨b,o,none⟩)∧(∀ b o,b < B→w1.frozen? ⟨b,o,none⟩ = W.frozen? ⟨b,o,none⟩) :=
 ⟨fun b o h=>hb.cell (p:=⟨b,o,none⟩) h,fun b o h=>hb.frozen (p:=⟨b,o,none⟩) h⟩
end Go.Proofs.Ythpngeboknmllaa
