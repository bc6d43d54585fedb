/- Texts put together. -/
import Derived.Test.YthpngeboknmllaaQ357b32f92d
import Derived.Test.YthpngeboknmllaaQf4ed3bae20
set_option linter.unusedVariables false
set_option linter.unusedSimpArgs false
namespace Go.Proofs.Ythpngeboknmllaa
open Go.RowKit
def placeS (t:Tree):Int × Bool :=
 if t.kind≠2∨t.cols≠0∨0 < t.kids.length∨t.text.size≠2∨(bytes t.text).getD 0 0≠35 then (0,false)
 else ((bytes t.text).getD 1 0 - 48,decide (1≤(bytes t.text).getD 1 0 - 48) && decide ((bytes t.text).getD 1 0 - 48≤4))
def xT:ByteArray:=⟨#[120]⟩
mutual
def plN (P : Int) : Tree → Int → Int → Bool → Tree × Int × Bool
  | .mk k s c ts, d, m, ok =>
    if 1000 < m + 1 ∨ 24 < d then (zeroT, m + 1, false)
    else (.mk k (if (placeS (.mk k s c ts)).2 then xT else s) c (plNs P ts (d + 1) (m + 1) (if (placeS (.mk k s c ts)).2 then ok && decide ((placeS (.mk k s c ts)).1 ≤ P) else ok)).1,
      (plNs P ts (d + 1) (m + 1) (if (placeS (.mk k s c ts)).2 then ok && decide ((placeS (.mk k s c ts)).1 ≤ P) else ok)).2)
def plNs (P : Int) : List Tree → Int → Int → Bool → List Tree × Int × Bool
  | [], _, m, ok => ([], m, ok)
  | t :: ts, d, m, ok => if ok then ((plN P t d m ok).1 :: (plNs P ts d (plN P t d m ok).2.1 (plN P t d m ok).2.2).1, (plNs P ts d (plN P t d m ok).2.1 (plN P t d m ok).2.2).2) else ([], m, ok)
end
theorem plNs_take (P : Int) : (ts : List Tree) → (i : Nat) → (d m : Int) → (ok : Bool) → (h : i < ts.length) → (plNs P (ts.take i) d m ok).2.2 = true →
    plNs P (ts.take (i + 1)) d m ok = ((plNs P (ts.take i) d m ok).1 ++ [(plN P ts[i] d (plNs P (ts.take i) d m ok).2.1 true).1], (plN P ts[i] d (plNs P (ts.take i) d m ok).2.1 true).2)
  | t :: ts, 0, d, m, ok, h, hk => by
    simp only [List.take_zero, plNs] at hk
    subst hk
    simp [plNs]
  | t :: ts, i + 1, d, m, ok, h, hk => by
    simp only [List.take_succ_cons, plNs] at hk ⊢
    cases ok with
    | false => simp at hk
    | true =>
      simp only [if_true] at hk ⊢
      have := plNs_take P ts i d _ _ (by simpa using h) hk
      rw [this]
      rfl
theorem plNs_stop (P : Int) : (ts : List Tree) → (i : Nat) → (d m : Int) → (ok : Bool) → (plNs P (ts.take i) d m ok).2.2 = false → plNs P ts d m ok = plNs P (ts.take i) d m ok
  | [], i, d, m, ok, h => by simp
  | t :: ts, 0, d, m, ok, h => by
    simp only [List.take_zero, plNs] at h
    subst h
    simp [plNs]
  | t :: ts, i + 1, d, m, ok, h => by
    simp only [List.take_succ_cons, plNs] at h ⊢
    cases ok with
    | false => simp
    | true =>
      simp only [if_true] at h ⊢
      rw [plNs_stop P ts i d _ _ h]
mutual
def plOk (P:Int):Tree→Bool
 | .mk k s c ts=>(!(placeS (.mk k s c ts)).2 || decide ((placeS (.mk k s c ts)).1≤P)) && plOks P ts
def plOks (P:Int):List Tree→Bool
 | []=>true
 | t :: ts=>plOk P t && plOks P ts
end
mutual
theorem plN_ok (P : Int) : (t : Tree) → (d m : Int) → (ok : Bool) → (plN P t d m ok).2.2 = true → ok = true ∧ plOk P t = true ∧ (plN P t d m ok).2.1 = m + countS t ∧ m + countS t ≤ 1000
  | .mk k s c ts, d, m, ok, h => by
    rw [plN] at h ⊢
    split at h
    · simp at h
    · rename_i hn
      rw [if_neg hn]
      simp only at h ⊢
      obtain ⟨h1, h2, h3, h4⟩ := plNs_ok P ts (d + 1) (m + 1) _ h
      rw [countS, plOk, h2, h3]
      have hm : m + 1 + (countsS ts : Int) ≤ 1000 := by
        rcases h4 with rfl | h4
        · simp only [countsS]; omega
        · exact h4
      cases hp : (placeS (.mk k s c ts)).2 with
      | false =>
        rw [hp] at h1
        exact ⟨by simpa using h1, by simp, by push_cast; omega, by push_cast; omega⟩
      | true =>
        rw [hp] at h1
        simp only [if_true, Bool.and_eq_true] at h1
        exact ⟨h1.1, by simp [h1.2], by push_cast; omega, by push_cast; omega⟩
theorem plNs_ok (P : Int) : (ts : List Tree) → (d m : Int) → (ok : Bool) → (plNs P ts d m ok).2.2 = true → ok = true ∧ plOks P ts = true ∧ (plNs P ts d m ok).2.1 = m + countsS ts ∧ (ts = [] ∨ m + countsS ts ≤ 1000)
  | [], d, m, ok, h => by
    simp only [plNs] at h ⊢
    exact ⟨h, rfl, by simp [countsS], by simp⟩
  | t :: ts, d, m, ok, h => by
    rw [plNs] at h ⊢
    cases ok with
    | false => simp at h
    | true =>
      simp only [if_true] at h ⊢
      obtain ⟨h1, h2, h3, h4⟩ := plNs_ok P ts d _ _ h
      obtain ⟨_, g2, g3, g4⟩ := plN_ok P t d m true h1
      rw [h3, g3, plOks, g2, h2, countsS]
      refine ⟨by simp, by simp, by push_cast; omega, .inr ?_⟩
      rcases h4 with rfl | h4
      · simp only [countsS]; push_cast; omega
      · rw [g3] at h4; push_cast; omega
end
def tmplS (t:Tree) (P:Int):Bool:=if P < 0∨4 < P then false else (plN P t 1 0 true).2.2 && validS (plN P t 1 0 true).1
theorem tmpl_ok {t:Tree} {P:Int} (h:tmplS t P = true):0≤P∧P≤4∧plOk P t = true∧countS t≤1000:=by
 unfold tmplS at h
 split at h
 ·cases h
 ·rename_i hn
  simp only [Bool.and_eq_true] at h
  obtain ⟨_,h2,_,h4⟩:=plN_ok P t 1 0 true h.1
  exact ⟨by omega,by omega,h2,by omega⟩
mutual
def fillL (args:List Tree):List Tree→List Tree
 | []=>[]
 | .mk k s c ts :: r=>(if (placeS (.mk k s c ts)).2 then (args.getD ((placeS (.mk k s c ts)).1.toNat - 1) zeroT).kids else [.mk k s c (fillR args ts)]) ++ fillL args r
def fillR (args:List Tree):List Tree→List Tree
 | []=>[]
 | .mk k s c ts :: r=>rowT (fillL args ts) :: fillR args r
end
theorem fillL_take (args : List Tree) : (ts : List Tree) → (i : Nat) → (h : i < ts.length) → fillL args (ts.take (i + 1)) = fillL args (ts.take i) ++ fillL args [ts[i]]
  | .mk k s c us :: ts, 0, h => by simp [fillL]
  | .mk k s c us :: ts, i + 1, h => by
    simp only [List.take_succ_cons, fillL, List.getElem_cons_succ]
    rw [fillL_take args ts i (by simpa using h)]
    simp [List.append_assoc]
theorem fillR_take (args : List Tree) : (ts : List Tree) → (i : Nat) → (h : i < ts.length) → fillR args (ts.take (i + 1)) = fillR args (ts.take i) ++ [rowT (fillL args ts[i].kids)]
  | .mk k s c us :: ts, 0, h => by simp [fillR, Tree.kids]
  | .mk k s c us :: ts, i + 1, h => by
    simp only [List.take_succ_cons, fillR, List.getElem_cons_succ]
    rw [fillR_take args ts i (by simpa using h)]
    simp
theorem fillR_len (args:List Tree):(ts:List Tree)→(fillR args ts).length = ts.length
 | []=>by simp [fillR]
 | .mk k s c us :: ts=>by simp [fillR,fillR_len args ts]
theorem getD_kids (args:List Tree) (M:Nat) (h:∀ a ∈ args,a.kids.length≤M) (i:Nat):(args.getD i zeroT).kids.length≤M:=by
 rw [List.getD_eq_getElem?_getD]
 cases hq:args[i]? with
 | none=>simp [zeroT,Tree.kids]
 | some a=>exact h a (List.mem_of_getElem? hq)
theorem fillL_len (args : List Tree) (M : Nat) (h : ∀ a ∈ args, a.kids.length ≤ M) : (ts : List Tree) → (fillL args ts).length ≤ ts.length * (M + 1)
  | [] => by simp [fillL]
  | .mk k s c us :: ts => by
    have h1 := fillL_len args M h ts
    have h2 := getD_kids args M h ((placeS (.mk k s c us)).1.toNat - 1)
    rw [fillL, List.length_append, List.length_cons, Nat.succ_mul]
    split
    · omega
    · simp only [List.length_cons, List.length_nil]; omega
def fillF (t:Tree) (args:List Tree):Tree × Int :=
 if tmplS t args.length = false then (zeroT,1)
 else if (args.all fun a=>tmplS a 4) = false then (zeroT,1)
 else if tmplS (rowT (fillL args t.kids)) 4 = false then (zeroT,6)
 else (rowT (fillL args t.kids),0)
end Go.Proofs.Ythpngeboknmllaa
