/- Texts put together. -/
import Derived.Test.YthpngeboknmllaaQe06f35c01b
set_option linter.unusedVariables false
set_option linter.unusedSimpArgs false
namespace Go.Proofs.Ythpngeboknmllaa
open Go.RowKit
def NodeAtC (W:World) (g o:Nat) (t:Tree) (v:Value):Prop :=
 W.cell? ⟨g,o,none⟩ = some (.int .i64 t.kind)∧W.cell? ⟨g,o + 1,none⟩ = some (.string t.text)∧W.cell? ⟨g,o + 2,none⟩ = some (.int .i64 t.cols)∧W.cell? ⟨g,o + 3,none⟩ = some v
def NodeOk (t:Tree):Prop:=In64 t.kind∧In64 t.cols∧t.text.size≤maxLen
abbrev PendT:=Nat × Nat × Tree
def PendAt (w0 W:World) (S:Nat→Prop) (x:PendT):Prop :=
 S x.1∧(∃ a,x.2.1 = a * 4)∧NodeOk x.2.2∧∃ v,NodeAtC W x.1 x.2.1 x.2.2 v∧SliceR treeE w0 (Lt w0.heap.size) x.2.2.kids v
inductive Built (W:World) (S:Nat→Prop) (P:PendT→Prop):Nat→Nat→Tree→Prop
 | pend (g o:Nat) (t:Tree):P (g,o,t)→Built W S P g o t
 | done (g o:Nat) (t:Tree) (g' cap:Nat) (A:Option Addr):S g→(∃ a,o = a * 4)→NodeOk t→NodeAtC W g o t (.slice A t.kids.length cap)→t.kids.length≤cap→cap≤maxLen →
   (0 < t.kids.length→A = some ⟨g',0,none⟩∧S g')→(∀ (i:Nat) (h:i < t.kids.length),Built W S P g' (i * 4) t.kids[i])→Built W S P g o t
theorem NodeAtC.keep {W W':World} {g o:Nat} {t:Tree} {v:Value} (h:NodeAtC W g o t v) (hk:∀ j,j < 4→W'.cell? ⟨g,o + j,none⟩ = W.cell? ⟨g,o + j,none⟩):NodeAtC W' g o t v:=by
 have e0:=hk 0 (by omega)
 simp only [Nat.add_zero] at e0
 exact ⟨e0.trans h.1,(hk 1 (by omega)).trans h.2.1,(hk 2 (by omega)).trans h.2.2.1,(hk 3 (by omega)).trans h.2.2.2⟩
theorem Built.step {w0 W W' : World} {S S' : Nat → Prop} {P P' : PendT → Prop} {g o g' cap' : Nat} {t : Tree} {A' : Option Addr} (hp : PendAt w0 W S (g, o, t)) (hP : ∀ x, P x → x = (g, o, t) ∨ P' x) (hS : ∀ k, S k → S' k) (h0 : ∀ k, S k → w0.heap.size ≤ k)
    (hk : ∀ q : Addr, S q.block → q ≠ ⟨g, o + 3, none⟩ → W'.cell? q = W.cell? q) (hc : W'.cell? ⟨g, o + 3, none⟩ = some (.slice A' t.kids.length cap')) (hcap : t.kids.length ≤ cap') (hmax : cap' ≤ maxLen) (hA : 0 < t.kids.length → A' = some ⟨g', 0, none⟩ ∧ S' g')
    (hkids : ∀ (i : Nat) (h : i < t.kids.length), P' (g', i * 4, t.kids[i])) {gr orr : Nat} {tr : Tree} (h : Built W S P gr orr tr) : Built W' S' P' gr orr tr := by
  obtain ⟨hg, ⟨a, ha⟩, hok, v, hn, hv⟩ := hp
  simp only at hg ha hok hn hv
  have hsame : ∀ g1 o1 b, S g1 → o1 = b * 4 → ¬ (g1 = g ∧ o1 = o) → ∀ j, j < 4 → W'.cell? ⟨g1, o1 + j, none⟩ = W.cell? ⟨g1, o1 + j, none⟩ := fun g1 o1 b hs hb hne j hj => hk ⟨g1, o1 + j, none⟩ hs (fun e => by
    injection e with e1 e2
    exact hne ⟨e1, by omega⟩)
  have hfirst : ∀ j, j < 3 → W'.cell? ⟨g, o + j, none⟩ = W.cell? ⟨g, o + j, none⟩ := fun j hj => hk ⟨g, o + j, none⟩ hg (fun e => by injection e with _ e2; omega)
  have hf0 := hfirst 0 (by omega)
  simp only [Nat.add_zero] at hf0
  have hn' : NodeAtC W' g o t (.slice A' t.kids.length cap') := ⟨hf0.trans hn.1, (hfirst 1 (by omega)).trans hn.2.1, (hfirst 2 (by omega)).trans hn.2.2.1, hc⟩
  induction h with
  | pend g1 o1 t1 h1 =>
    rcases hP _ h1 with e | h2
    · cases e
      exact .done _ _ _ g' cap' A' (hS _ hg) ⟨a, ha⟩ hok hn' hcap hmax hA (fun i hi => .pend _ _ _ (hkids i hi))
    · exact .pend _ _ _ h2
  | done g1 o1 t1 g2 cap1 A1 h1 h2 h3 h4 h5 h6 h7 h8 ih =>
    obtain ⟨b, hb⟩ := h2
    by_cases he : g1 = g ∧ o1 = o
    · obtain ⟨rfl, rfl⟩ := he
      have ev : v = .slice A1 t1.kids.length cap1 := by
        have := h4.2.2.2
        rw [hn.2.2.2] at this
        exact Option.some.inj this
      subst ev
      obtain ⟨A2, c2, cs, e2, hc1, hc2, hr, hl⟩ := hv
      injection e2 with e3 e4 e5
      have hz : t1.kids.length = 0 := by
        rcases Nat.eq_zero_or_pos t1.kids.length with hz | hz
        · exact hz
        · exfalso
          obtain ⟨hA1, hS1⟩ := h7 hz
          have hlen := hl.len
          obtain ⟨gg, oo, e6, hlt, _⟩ := hr (by rw [hlen, ← e4]; simp [treeE]; omega)
          rw [← e3, hA1] at e6
          cases e6
          have := h0 _ hS1
          have : g2 < w0.heap.size := hlt
          omega
      have k0 : W'.cell? ⟨g1, o1 + 3, none⟩ = some (.slice A' t1.kids.length cap') := by rw [e4]; exact hc
      refine .done _ _ _ g' cap' A' (hS _ hg) ⟨b, hb⟩ h3 ⟨hf0.trans h4.1, (hfirst 1 (by omega)).trans h4.2.1, (hfirst 2 (by omega)).trans h4.2.2.1, k0⟩ (by omega) hmax (fun h => by omega) (fun i hi => by omega)
    · exact .done _ _ _ g2 cap1 A1 (hS _ h1) ⟨b, hb⟩ h3 (h4.keep (hsame g1 o1 b h1 hb he)) h5 h6 (fun h => ⟨(h7 h).1, hS _ (h7 h).2⟩) ih
theorem Built.keep {W W':World} {S S':Nat→Prop} {P P':PendT→Prop} (hS:∀ k,S k→S' k) (hk:∀ q:Addr,S q.block→W'.cell? q = W.cell? q) (hP:∀ x,P x→P' x) {g o:Nat} {t:Tree} (h:Built W S P g o t):Built W' S' P' g o t:=by
 induction h with
 | pend g1 o1 t1 h1=>exact .pend _ _ _ (hP _ h1)
 | done g1 o1 t1 g2 cap1 A1 h1 h2 h3 h4 h5 h6 h7 h8 ih=>exact .done _ _ _ g2 cap1 A1 (hS _ h1) h2 h3 (h4.keep fun j _=>hk ⟨g1,o1 + j,none⟩ h1) h5 h6 (fun h=>⟨(h7 h).1,hS _ (h7 h).2⟩) ih
theorem PendAt.keep {w0 W W':World} {S S':Nat→Prop} {x:PendT} (h:PendAt w0 W S x) (hS:∀ k,S k→S' k) (hk:∀ j,j < 4→W'.cell? ⟨x.1,x.2.1 + j,none⟩ = W.cell? ⟨x.1,x.2.1 + j,none⟩):PendAt w0 W' S' x:=by
 obtain ⟨h1,h2,h3,v,h4,h5⟩:=h
 exact ⟨hS _ h1,h2,h3,v,h4.keep hk,h5⟩
theorem PendAt.other {w0 W W':World} {S S':Nat→Prop} {x:PendT} {g o:Nat} (h:PendAt w0 W S x) (ho:∃ a,o = a * 4) (hne:¬ (x.1 = g∧x.2.1 = o)) (hS:∀ k,S k→S' k) (hk:∀ q:Addr,S q.block→q≠⟨g,o + 3,none⟩→W'.cell? q = W.cell? q):PendAt w0 W' S' x:=by
 obtain ⟨b,hb⟩:=h.2.1
 obtain ⟨a,ha⟩:=ho
 refine h.keep hS fun j hj=>hk ⟨x.1,x.2.1 + j,none⟩ h.1 (fun e=>?_)
 injection e with e1 e2
 exact hne ⟨e1,by omega⟩
theorem kids_row {W : World} {S : Nat → Prop} {g : Nat} (hS : S g) : ∀ (ts : List Tree) (off : Nat), (∀ (i : Nat) (h : i < ts.length), ∃ v, NodeAtC W g (off + i * 4) ts[i] v ∧ NodeOk ts[i] ∧ SliceR treeE W S ts[i].kids v) →
    ∃ cs, ListR treeE W S ts cs ∧ ∀ j u, cs[j]? = some u → W.cell? ⟨g, off + j, none⟩ = some u
  | [], off, _ => ⟨[], rfl, fun j u h => by simp at h⟩
  | t :: ts, off, h => by
    obtain ⟨v, hn, hok, hv⟩ := h 0 (by simp)
    simp only [Nat.zero_mul, Nat.add_zero, List.getElem_cons_zero] at hn hok hv
    obtain ⟨cs, hl, hc⟩ := kids_row hS ts (off + 4) (fun i hi => by
      obtain ⟨u, h1, h2, h3⟩ := h (i + 1) (by simpa using hi)
      rw [show off + (i + 1) * 4 = off + 4 + i * 4 by omega] at h1
      exact ⟨u, by simpa using h1, by simpa using h2, by simpa using h3⟩)
    refine ⟨[.int .i64 t.kind, .string t.text, .int .i64 t.cols, v] ++ cs, ⟨_, cs, rfl, treeR_mk.2 ⟨v, rfl, hok.1, hok.2.1, hok.2.2, hv⟩, hl⟩, fun j u hu => ?_⟩
    match j, hu with
    | 0, hu => cases hu; exact hn.1
    | 1, hu => cases hu; exact hn.2.1
    | 2, hu => cases hu; exact hn.2.2.1
    | 3, hu => cases hu; exact hn.2.2.2
    | j + 4, hu =>
      have := hc j u (by simpa using hu)
      rw [show off + (j + 4) = off + 4 + j by omega]; exact this
theorem Built.reads {W : World} {S : Nat → Prop} {P : PendT → Prop} (hP : ∀ x, ¬ P x) {g o : Nat} {t : Tree} (h : Built W S P g o t) : ∃ v, NodeAtC W g o t v ∧ NodeOk t ∧ SliceR treeE W S t.kids v := by
  induction h with
  | pend g1 o1 t1 h1 => exact absurd h1 (hP _)
  | done g1 o1 t1 g2 cap1 A1 h1 h2 h3 h4 h5 h6 h7 h8 ih =>
    refine ⟨_, h4, h3, ?_⟩
    rcases Nat.eq_zero_or_pos t1.kids.length with hz | hz
    · have e : t1.kids = [] := List.eq_nil_of_length_eq_zero hz
      exact ⟨A1, cap1, [], rfl, h5, h6, Reads.nil_, by rw [e]; rfl⟩
    · obtain ⟨rfl, hS2⟩ := h7 hz
      obtain ⟨cs, hl, hc⟩ := kids_row hS2 t1.kids 0 (fun i hi => by
        obtain ⟨v, a, b, c⟩ := ih i hi
        exact ⟨v, by rwa [Nat.zero_add], b, c⟩)
      exact ⟨_, cap1, cs, rfl, h5, h6, fun _ => ⟨g2, 0, rfl, hS2, hc⟩, hl⟩
end Go.Proofs.Ythpngeboknmllaa
