/- Texts put together: Awk11, Law42, Sel6, Awk10. -/
import Derived.Test.YtmahiejfniaahaaDoorGR
import Derived.Test.YtmahiejfniaahaaDoorGJ
import Derived.Test.YtmahiejfniaahaaDoorGF
import Derived.Deep.QuietTactic
import Derived.BigQuiet
import Derived.Test.YtmahiejfniaahaaDoorGP
import Derived.Test.YtmahiejfniaahaaDoorGD
/- vinculumlaw11.awake. -/
set_option linter.unusedVariables false
set_option linter.unusedSimpArgs false
set_option maxRecDepth 100000
namespace Go.Proofs.YtmahiejfniaahaaDoor
open Go.RowKit

theorem trees_lit (W : World) (ts : List Tree) (arr : Array Value) (cs : List Value) (harr : arr = cs.toArray) (h : ListR treeE W (Lt W.heap.size) ts cs) (hl : ts.length ≤ maxLen) (n g : Nat) (hn : n = ts.length) (hg : g = W.heap.size) (e : TypeId) :
    SliceR treeE (W.alloc (.cells arr e)) (Lt (W.alloc (.cells arr e)).heap.size) ts (.slice (some ⟨g, 0, none⟩) n n) := by
  subst harr hn hg
  have hb : Below W.heap.size W (W.alloc (.cells cs.toArray e)) := below_allocR' _ _
  refine ⟨_, _, cs, rfl, Nat.le_refl _, hl, fun _ => ⟨W.heap.size, 0, rfl, by unfold Lt; simp, fun j x hx => ?_⟩, h.keep (Same.of_below hb (Nat.le_refl _)) (Lt.mono hb.size)⟩
  rw [Nat.zero_add, World.cell?_alloc_new]
  simpa using hx
theorem tree_cells (W : World) (S : Nat → Prop) (k c : Int) (s : ByteArray) (ts : List Tree) (v : Value) (hk : In64 k) (hc : In64 c) (hs : s.size ≤ maxLen) (h : SliceR treeE W S ts v) : treeE.R W S (.mk k s c ts) [.int .i64 k, .string s, .int .i64 c, v] :=
  treeR_mk.2 ⟨v, rfl, hk, hc, hs, h⟩
def symT (s : ByteArray) : Tree := .mk 2 s 0 []
theorem sym_cells (W : World) (S : Nat → Prop) (s : ByteArray) (hs : s.size ≤ maxLen) : treeE.R W S (symT s) [.int .i64 2, .string s, .int .i64 0, .slice none 0 0] := tree_cells W S 2 0 s [] _ (by simp [In64]) (by simp [In64]) hs (SliceR.nil_ 0 (by simp) none)
def rowT' (ts : List Tree) : Tree := .mk 1 ⟨#[]⟩ 0 ts
def awT : Tree := rowT' [symT ⟨#[120]⟩, .mk 5 ⟨#[]⟩ 0 [rowT' [symT ⟨#[97]⟩], rowT' [symT ⟨#[98]⟩]]]
theorem tx0 (k : Int) (h : k = 1 ∨ k = 5) : textS k ⟨#[]⟩ = true := by
  unfold textS
  rw [if_neg (by omega), if_neg (by omega), if_neg (by omega), if_neg (by omega), if_neg (by omega), Lib.toList_data]; rfl
theorem txx : textS 2 ⟨#[120]⟩ = true := by decide +kernel
theorem txa : textS 2 ⟨#[97]⟩ = true := by decide +kernel
theorem txb : textS 2 ⟨#[98]⟩ = true := by decide +kernel
theorem awT_form : formS awT = true := by
  simp only [awT, rowT', symT, formS, formsS, tx0 1 (.inl rfl), tx0 5 (.inr rfl), txx, txa, txb, List.length_cons, List.length_nil]
  decide +kernel
theorem awT_valid : validS awT = true := by
  unfold validS
  rw [awT_form]
  decide +kernel
theorem awT_a : posIn awT [1, 0, 0] = true := by decide +kernel
theorem awT_b : posIn awT [1, 1, 1] = true := by decide +kernel
theorem awT_bt : btS [1, 0, 0] [1, 1, 1] = ([], 1, 2) := by decide +kernel
theorem i64_of {x : Int} (h : -1000 ≤ x ∧ x ≤ 1000) : In64 x := ⟨by omega, by omega⟩
theorem sz_le {s : ByteArray} (h : s.size ≤ 1000) : s.size ≤ maxLen := by unfold maxLen; omega

theorem aw_read (w : World) : SliceR treeE (((((((((((((w.alloc (.cells #[.int .i64 2, .string ⟨#[120]⟩, .int .i64 0, .slice none 0 0] 24)).alloc (.cells #[.int .i64 2, .string ⟨#[97]⟩, .int .i64 0, .slice none 0 0] 24)).alloc (.cells #[.int .i64 2, .string ⟨#[97]⟩, .int .i64 0, .slice none 0 0] 24)).alloc (.cells #[.int .i64 1, .string ⟨#[]⟩, .int .i64 0, .slice (some ⟨w.heap.size + 1 + 1, 0, none⟩) 1 1] 24)).alloc (.cells #[.int .i64 2, .string ⟨#[98]⟩, .int .i64 0, .slice none 0 0] 24)).alloc (.cells #[.int .i64 2, .string ⟨#[98]⟩, .int .i64 0, .slice none 0 0] 24)).alloc (.cells #[.int .i64 1, .string ⟨#[]⟩, .int .i64 0, .slice (some ⟨w.heap.size + 1 + 1 + 1 + 1 + 1, 0, none⟩) 1 1] 24)).alloc (.cells #[.int .i64 1, .string ⟨#[]⟩, .int .i64 0, .slice (some ⟨w.heap.size + 1 + 1, 0, none⟩) 1 1, .int .i64 1, .string ⟨#[]⟩, .int .i64 0, .slice (some ⟨w.heap.size + 1 + 1 + 1 + 1 + 1, 0, none⟩) 1 1] 24)).alloc (.cells #[.int .i64 2, .string ⟨#[120]⟩, .int .i64 0, .slice none 0 0, .int .i64 5, .string ⟨#[]⟩, .int .i64 0, .slice (some ⟨w.heap.size + 1 + 1 + 1 + 1 + 1 + 1 + 1, 0, none⟩) 2 2] 24)).alloc (.cells #[.int .i64 1, .string ⟨#[]⟩, .int .i64 0, .slice (some ⟨w.heap.size + 1 + 1 + 1 + 1 + 1 + 1 + 1 + 1, 0, none⟩) 2 2] 24)).alloc (.cells #[.int .i64 1, .string ⟨#[]⟩, .int .i64 0, .slice (some ⟨w.heap.size + 1 + 1 + 1 + 1 + 1 + 1 + 1 + 1, 0, none⟩) 2 2] 24)).alloc (.cells #[.int .i64 1, .int .i64 0, .int .i64 0] 3)).alloc (.cells #[.int .i64 1, .int .i64 1, .int .i64 1] 3)) (Lt (((((((((((((w.alloc (.cells #[.int .i64 2, .string ⟨#[120]⟩, .int .i64 0, .slice none 0 0] 24)).alloc (.cells #[.int .i64 2, .string ⟨#[97]⟩, .int .i64 0, .slice none 0 0] 24)).alloc (.cells #[.int .i64 2, .string ⟨#[97]⟩, .int .i64 0, .slice none 0 0] 24)).alloc (.cells #[.int .i64 1, .string ⟨#[]⟩, .int .i64 0, .slice (some ⟨w.heap.size + 1 + 1, 0, none⟩) 1 1] 24)).alloc (.cells #[.int .i64 2, .string ⟨#[98]⟩, .int .i64 0, .slice none 0 0] 24)).alloc (.cells #[.int .i64 2, .string ⟨#[98]⟩, .int .i64 0, .slice none 0 0] 24)).alloc (.cells #[.int .i64 1, .string ⟨#[]⟩, .int .i64 0, .slice (some ⟨w.heap.size + 1 + 1 + 1 + 1 + 1, 0, none⟩) 1 1] 24)).alloc (.cells #[.int .i64 1, .string ⟨#[]⟩, .int .i64 0, .slice (some ⟨w.heap.size + 1 + 1, 0, none⟩) 1 1, .int .i64 1, .string ⟨#[]⟩, .int .i64 0, .slice (some ⟨w.heap.size + 1 + 1 + 1 + 1 + 1, 0, none⟩) 1 1] 24)).alloc (.cells #[.int .i64 2, .string ⟨#[120]⟩, .int .i64 0, .slice none 0 0, .int .i64 5, .string ⟨#[]⟩, .int .i64 0, .slice (some ⟨w.heap.size + 1 + 1 + 1 + 1 + 1 + 1 + 1, 0, none⟩) 2 2] 24)).alloc (.cells #[.int .i64 1, .string ⟨#[]⟩, .int .i64 0, .slice (some ⟨w.heap.size + 1 + 1 + 1 + 1 + 1 + 1 + 1 + 1, 0, none⟩) 2 2] 24)).alloc (.cells #[.int .i64 1, .string ⟨#[]⟩, .int .i64 0, .slice (some ⟨w.heap.size + 1 + 1 + 1 + 1 + 1 + 1 + 1 + 1, 0, none⟩) 2 2] 24)).alloc (.cells #[.int .i64 1, .int .i64 0, .int .i64 0] 3)).alloc (.cells #[.int .i64 1, .int .i64 1, .int .i64 1] 3)).heap.size) awT.kids (.slice (some ⟨w.heap.size + 1 + 1 + 1 + 1 + 1 + 1 + 1 + 1, 0, none⟩) 2 2) := by
  have kA : SliceR treeE (((w.alloc (.cells #[.int .i64 2, .string ⟨#[120]⟩, .int .i64 0, .slice none 0 0] 24)).alloc (.cells #[.int .i64 2, .string ⟨#[97]⟩, .int .i64 0, .slice none 0 0] 24)).alloc (.cells #[.int .i64 2, .string ⟨#[97]⟩, .int .i64 0, .slice none 0 0] 24)) (Lt (((w.alloc (.cells #[.int .i64 2, .string ⟨#[120]⟩, .int .i64 0, .slice none 0 0] 24)).alloc (.cells #[.int .i64 2, .string ⟨#[97]⟩, .int .i64 0, .slice none 0 0] 24)).alloc (.cells #[.int .i64 2, .string ⟨#[97]⟩, .int .i64 0, .slice none 0 0] 24)).heap.size) [symT ⟨#[97]⟩] (.slice (some ⟨w.heap.size + 1 + 1, 0, none⟩) 1 1) := trees_lit ((w.alloc (.cells #[.int .i64 2, .string ⟨#[120]⟩, .int .i64 0, .slice none 0 0] 24)).alloc (.cells #[.int .i64 2, .string ⟨#[97]⟩, .int .i64 0, .slice none 0 0] 24)) _ _ _ rfl (ListR.single (sym_cells _ _ _ (sz_le (by decide)))) (by simp [maxLen]) _ _ rfl (by simp) _
  have kB : SliceR treeE ((((((w.alloc (.cells #[.int .i64 2, .string ⟨#[120]⟩, .int .i64 0, .slice none 0 0] 24)).alloc (.cells #[.int .i64 2, .string ⟨#[97]⟩, .int .i64 0, .slice none 0 0] 24)).alloc (.cells #[.int .i64 2, .string ⟨#[97]⟩, .int .i64 0, .slice none 0 0] 24)).alloc (.cells #[.int .i64 1, .string ⟨#[]⟩, .int .i64 0, .slice (some ⟨w.heap.size + 1 + 1, 0, none⟩) 1 1] 24)).alloc (.cells #[.int .i64 2, .string ⟨#[98]⟩, .int .i64 0, .slice none 0 0] 24)).alloc (.cells #[.int .i64 2, .string ⟨#[98]⟩, .int .i64 0, .slice none 0 0] 24)) (Lt ((((((w.alloc (.cells #[.int .i64 2, .string ⟨#[120]⟩, .int .i64 0, .slice none 0 0] 24)).alloc (.cells #[.int .i64 2, .string ⟨#[97]⟩, .int .i64 0, .slice none 0 0] 24)).alloc (.cells #[.int .i64 2, .string ⟨#[97]⟩, .int .i64 0, .slice none 0 0] 24)).alloc (.cells #[.int .i64 1, .string ⟨#[]⟩, .int .i64 0, .slice (some ⟨w.heap.size + 1 + 1, 0, none⟩) 1 1] 24)).alloc (.cells #[.int .i64 2, .string ⟨#[98]⟩, .int .i64 0, .slice none 0 0] 24)).alloc (.cells #[.int .i64 2, .string ⟨#[98]⟩, .int .i64 0, .slice none 0 0] 24)).heap.size) [symT ⟨#[98]⟩] (.slice (some ⟨w.heap.size + 1 + 1 + 1 + 1 + 1, 0, none⟩) 1 1) := trees_lit (((((w.alloc (.cells #[.int .i64 2, .string ⟨#[120]⟩, .int .i64 0, .slice none 0 0] 24)).alloc (.cells #[.int .i64 2, .string ⟨#[97]⟩, .int .i64 0, .slice none 0 0] 24)).alloc (.cells #[.int .i64 2, .string ⟨#[97]⟩, .int .i64 0, .slice none 0 0] 24)).alloc (.cells #[.int .i64 1, .string ⟨#[]⟩, .int .i64 0, .slice (some ⟨w.heap.size + 1 + 1, 0, none⟩) 1 1] 24)).alloc (.cells #[.int .i64 2, .string ⟨#[98]⟩, .int .i64 0, .slice none 0 0] 24)) _ _ _ rfl (ListR.single (sym_cells _ _ _ (sz_le (by decide)))) (by simp [maxLen]) _ _ rfl (by simp) _
  have up : ∀ (W : World) (o : Obj) (ts : List Tree) (v : Value), SliceR treeE W (Lt W.heap.size) ts v → SliceR treeE (W.alloc o) (Lt (W.alloc o).heap.size) ts v := fun W o ts v h => h.below (below_allocR' W o) (below_allocR' W o).size
  have kA7 := up _ (.cells #[.int .i64 1, .string ⟨#[]⟩, .int .i64 0, .slice (some ⟨w.heap.size + 1 + 1 + 1 + 1 + 1, 0, none⟩) 1 1] 24) _ _ (up _ (.cells #[.int .i64 2, .string ⟨#[98]⟩, .int .i64 0, .slice none 0 0] 24) _ _ (up _ (.cells #[.int .i64 2, .string ⟨#[98]⟩, .int .i64 0, .slice none 0 0] 24) _ _ (up _ (.cells #[.int .i64 1, .string ⟨#[]⟩, .int .i64 0, .slice (some ⟨w.heap.size + 1 + 1, 0, none⟩) 1 1] 24) _ _ kA)))
  have kB7 := up _ (.cells #[.int .i64 1, .string ⟨#[]⟩, .int .i64 0, .slice (some ⟨w.heap.size + 1 + 1 + 1 + 1 + 1, 0, none⟩) 1 1] 24) _ _ kB
  have kF0 := (ListR.append (ListR.single (E := treeE) (tree_cells _ (Lt ((((((((w.alloc (.cells #[.int .i64 2, .string ⟨#[120]⟩, .int .i64 0, .slice none 0 0] 24)).alloc (.cells #[.int .i64 2, .string ⟨#[97]⟩, .int .i64 0, .slice none 0 0] 24)).alloc (.cells #[.int .i64 2, .string ⟨#[97]⟩, .int .i64 0, .slice none 0 0] 24)).alloc (.cells #[.int .i64 1, .string ⟨#[]⟩, .int .i64 0, .slice (some ⟨w.heap.size + 1 + 1, 0, none⟩) 1 1] 24)).alloc (.cells #[.int .i64 2, .string ⟨#[98]⟩, .int .i64 0, .slice none 0 0] 24)).alloc (.cells #[.int .i64 2, .string ⟨#[98]⟩, .int .i64 0, .slice none 0 0] 24)).alloc (.cells #[.int .i64 1, .string ⟨#[]⟩, .int .i64 0, .slice (some ⟨w.heap.size + 1 + 1 + 1 + 1 + 1, 0, none⟩) 1 1] 24))).heap.size) 1 0 ⟨#[]⟩ _ _ (i64_of (by omega)) (i64_of (by omega)) (sz_le (by decide)) kA7)) (ListR.single (E := treeE) (tree_cells _ _ 1 0 ⟨#[]⟩ _ _ (i64_of (by omega)) (i64_of (by omega)) (sz_le (by decide)) kB7)))
  have kF : SliceR treeE ((((((((w.alloc (.cells #[.int .i64 2, .string ⟨#[120]⟩, .int .i64 0, .slice none 0 0] 24)).alloc (.cells #[.int .i64 2, .string ⟨#[97]⟩, .int .i64 0, .slice none 0 0] 24)).alloc (.cells #[.int .i64 2, .string ⟨#[97]⟩, .int .i64 0, .slice none 0 0] 24)).alloc (.cells #[.int .i64 1, .string ⟨#[]⟩, .int .i64 0, .slice (some ⟨w.heap.size + 1 + 1, 0, none⟩) 1 1] 24)).alloc (.cells #[.int .i64 2, .string ⟨#[98]⟩, .int .i64 0, .slice none 0 0] 24)).alloc (.cells #[.int .i64 2, .string ⟨#[98]⟩, .int .i64 0, .slice none 0 0] 24)).alloc (.cells #[.int .i64 1, .string ⟨#[]⟩, .int .i64 0, .slice (some ⟨w.heap.size + 1 + 1 + 1 + 1 + 1, 0, none⟩) 1 1] 24)).alloc (.cells #[.int .i64 1, .string ⟨#[]⟩, .int .i64 0, .slice (some ⟨w.heap.size + 1 + 1, 0, none⟩) 1 1, .int .i64 1, .string ⟨#[]⟩, .int .i64 0, .slice (some ⟨w.heap.size + 1 + 1 + 1 + 1 + 1, 0, none⟩) 1 1] 24)) (Lt ((((((((w.alloc (.cells #[.int .i64 2, .string ⟨#[120]⟩, .int .i64 0, .slice none 0 0] 24)).alloc (.cells #[.int .i64 2, .string ⟨#[97]⟩, .int .i64 0, .slice none 0 0] 24)).alloc (.cells #[.int .i64 2, .string ⟨#[97]⟩, .int .i64 0, .slice none 0 0] 24)).alloc (.cells #[.int .i64 1, .string ⟨#[]⟩, .int .i64 0, .slice (some ⟨w.heap.size + 1 + 1, 0, none⟩) 1 1] 24)).alloc (.cells #[.int .i64 2, .string ⟨#[98]⟩, .int .i64 0, .slice none 0 0] 24)).alloc (.cells #[.int .i64 2, .string ⟨#[98]⟩, .int .i64 0, .slice none 0 0] 24)).alloc (.cells #[.int .i64 1, .string ⟨#[]⟩, .int .i64 0, .slice (some ⟨w.heap.size + 1 + 1 + 1 + 1 + 1, 0, none⟩) 1 1] 24)).alloc (.cells #[.int .i64 1, .string ⟨#[]⟩, .int .i64 0, .slice (some ⟨w.heap.size + 1 + 1, 0, none⟩) 1 1, .int .i64 1, .string ⟨#[]⟩, .int .i64 0, .slice (some ⟨w.heap.size + 1 + 1 + 1 + 1 + 1, 0, none⟩) 1 1] 24)).heap.size) [rowT' [symT ⟨#[97]⟩], rowT' [symT ⟨#[98]⟩]] (.slice (some ⟨w.heap.size + 1 + 1 + 1 + 1 + 1 + 1 + 1, 0, none⟩) 2 2) :=
    trees_lit (((((((w.alloc (.cells #[.int .i64 2, .string ⟨#[120]⟩, .int .i64 0, .slice none 0 0] 24)).alloc (.cells #[.int .i64 2, .string ⟨#[97]⟩, .int .i64 0, .slice none 0 0] 24)).alloc (.cells #[.int .i64 2, .string ⟨#[97]⟩, .int .i64 0, .slice none 0 0] 24)).alloc (.cells #[.int .i64 1, .string ⟨#[]⟩, .int .i64 0, .slice (some ⟨w.heap.size + 1 + 1, 0, none⟩) 1 1] 24)).alloc (.cells #[.int .i64 2, .string ⟨#[98]⟩, .int .i64 0, .slice none 0 0] 24)).alloc (.cells #[.int .i64 2, .string ⟨#[98]⟩, .int .i64 0, .slice none 0 0] 24)).alloc (.cells #[.int .i64 1, .string ⟨#[]⟩, .int .i64 0, .slice (some ⟨w.heap.size + 1 + 1 + 1 + 1 + 1, 0, none⟩) 1 1] 24)) _ _ ([.int .i64 1, .string ⟨#[]⟩, .int .i64 0, .slice (some ⟨w.heap.size + 1 + 1, 0, none⟩) 1 1] ++ [.int .i64 1, .string ⟨#[]⟩, .int .i64 0, .slice (some ⟨w.heap.size + 1 + 1 + 1 + 1 + 1, 0, none⟩) 1 1]) rfl kF0 (by simp [maxLen]) _ _ rfl (by simp) _
  have kT0 := (ListR.append (ListR.single (E := treeE) (sym_cells _ (Lt (((((((((w.alloc (.cells #[.int .i64 2, .string ⟨#[120]⟩, .int .i64 0, .slice none 0 0] 24)).alloc (.cells #[.int .i64 2, .string ⟨#[97]⟩, .int .i64 0, .slice none 0 0] 24)).alloc (.cells #[.int .i64 2, .string ⟨#[97]⟩, .int .i64 0, .slice none 0 0] 24)).alloc (.cells #[.int .i64 1, .string ⟨#[]⟩, .int .i64 0, .slice (some ⟨w.heap.size + 1 + 1, 0, none⟩) 1 1] 24)).alloc (.cells #[.int .i64 2, .string ⟨#[98]⟩, .int .i64 0, .slice none 0 0] 24)).alloc (.cells #[.int .i64 2, .string ⟨#[98]⟩, .int .i64 0, .slice none 0 0] 24)).alloc (.cells #[.int .i64 1, .string ⟨#[]⟩, .int .i64 0, .slice (some ⟨w.heap.size + 1 + 1 + 1 + 1 + 1, 0, none⟩) 1 1] 24)).alloc (.cells #[.int .i64 1, .string ⟨#[]⟩, .int .i64 0, .slice (some ⟨w.heap.size + 1 + 1, 0, none⟩) 1 1, .int .i64 1, .string ⟨#[]⟩, .int .i64 0, .slice (some ⟨w.heap.size + 1 + 1 + 1 + 1 + 1, 0, none⟩) 1 1] 24))).heap.size) ⟨#[120]⟩ (sz_le (by decide)))) (ListR.single (E := treeE) (tree_cells _ _ 5 0 ⟨#[]⟩ _ _ (i64_of (by omega)) (i64_of (by omega)) (sz_le (by decide)) kF)))
  have kT : SliceR treeE (((((((((w.alloc (.cells #[.int .i64 2, .string ⟨#[120]⟩, .int .i64 0, .slice none 0 0] 24)).alloc (.cells #[.int .i64 2, .string ⟨#[97]⟩, .int .i64 0, .slice none 0 0] 24)).alloc (.cells #[.int .i64 2, .string ⟨#[97]⟩, .int .i64 0, .slice none 0 0] 24)).alloc (.cells #[.int .i64 1, .string ⟨#[]⟩, .int .i64 0, .slice (some ⟨w.heap.size + 1 + 1, 0, none⟩) 1 1] 24)).alloc (.cells #[.int .i64 2, .string ⟨#[98]⟩, .int .i64 0, .slice none 0 0] 24)).alloc (.cells #[.int .i64 2, .string ⟨#[98]⟩, .int .i64 0, .slice none 0 0] 24)).alloc (.cells #[.int .i64 1, .string ⟨#[]⟩, .int .i64 0, .slice (some ⟨w.heap.size + 1 + 1 + 1 + 1 + 1, 0, none⟩) 1 1] 24)).alloc (.cells #[.int .i64 1, .string ⟨#[]⟩, .int .i64 0, .slice (some ⟨w.heap.size + 1 + 1, 0, none⟩) 1 1, .int .i64 1, .string ⟨#[]⟩, .int .i64 0, .slice (some ⟨w.heap.size + 1 + 1 + 1 + 1 + 1, 0, none⟩) 1 1] 24)).alloc (.cells #[.int .i64 2, .string ⟨#[120]⟩, .int .i64 0, .slice none 0 0, .int .i64 5, .string ⟨#[]⟩, .int .i64 0, .slice (some ⟨w.heap.size + 1 + 1 + 1 + 1 + 1 + 1 + 1, 0, none⟩) 2 2] 24)) (Lt (((((((((w.alloc (.cells #[.int .i64 2, .string ⟨#[120]⟩, .int .i64 0, .slice none 0 0] 24)).alloc (.cells #[.int .i64 2, .string ⟨#[97]⟩, .int .i64 0, .slice none 0 0] 24)).alloc (.cells #[.int .i64 2, .string ⟨#[97]⟩, .int .i64 0, .slice none 0 0] 24)).alloc (.cells #[.int .i64 1, .string ⟨#[]⟩, .int .i64 0, .slice (some ⟨w.heap.size + 1 + 1, 0, none⟩) 1 1] 24)).alloc (.cells #[.int .i64 2, .string ⟨#[98]⟩, .int .i64 0, .slice none 0 0] 24)).alloc (.cells #[.int .i64 2, .string ⟨#[98]⟩, .int .i64 0, .slice none 0 0] 24)).alloc (.cells #[.int .i64 1, .string ⟨#[]⟩, .int .i64 0, .slice (some ⟨w.heap.size + 1 + 1 + 1 + 1 + 1, 0, none⟩) 1 1] 24)).alloc (.cells #[.int .i64 1, .string ⟨#[]⟩, .int .i64 0, .slice (some ⟨w.heap.size + 1 + 1, 0, none⟩) 1 1, .int .i64 1, .string ⟨#[]⟩, .int .i64 0, .slice (some ⟨w.heap.size + 1 + 1 + 1 + 1 + 1, 0, none⟩) 1 1] 24)).alloc (.cells #[.int .i64 2, .string ⟨#[120]⟩, .int .i64 0, .slice none 0 0, .int .i64 5, .string ⟨#[]⟩, .int .i64 0, .slice (some ⟨w.heap.size + 1 + 1 + 1 + 1 + 1 + 1 + 1, 0, none⟩) 2 2] 24)).heap.size) [symT ⟨#[120]⟩, .mk 5 ⟨#[]⟩ 0 [rowT' [symT ⟨#[97]⟩], rowT' [symT ⟨#[98]⟩]]] (.slice (some ⟨w.heap.size + 1 + 1 + 1 + 1 + 1 + 1 + 1 + 1, 0, none⟩) 2 2) :=
    trees_lit ((((((((w.alloc (.cells #[.int .i64 2, .string ⟨#[120]⟩, .int .i64 0, .slice none 0 0] 24)).alloc (.cells #[.int .i64 2, .string ⟨#[97]⟩, .int .i64 0, .slice none 0 0] 24)).alloc (.cells #[.int .i64 2, .string ⟨#[97]⟩, .int .i64 0, .slice none 0 0] 24)).alloc (.cells #[.int .i64 1, .string ⟨#[]⟩, .int .i64 0, .slice (some ⟨w.heap.size + 1 + 1, 0, none⟩) 1 1] 24)).alloc (.cells #[.int .i64 2, .string ⟨#[98]⟩, .int .i64 0, .slice none 0 0] 24)).alloc (.cells #[.int .i64 2, .string ⟨#[98]⟩, .int .i64 0, .slice none 0 0] 24)).alloc (.cells #[.int .i64 1, .string ⟨#[]⟩, .int .i64 0, .slice (some ⟨w.heap.size + 1 + 1 + 1 + 1 + 1, 0, none⟩) 1 1] 24)).alloc (.cells #[.int .i64 1, .string ⟨#[]⟩, .int .i64 0, .slice (some ⟨w.heap.size + 1 + 1, 0, none⟩) 1 1, .int .i64 1, .string ⟨#[]⟩, .int .i64 0, .slice (some ⟨w.heap.size + 1 + 1 + 1 + 1 + 1, 0, none⟩) 1 1] 24)) _ _ ([.int .i64 2, .string ⟨#[120]⟩, .int .i64 0, .slice none 0 0] ++ [.int .i64 5, .string ⟨#[]⟩, .int .i64 0, .slice (some ⟨w.heap.size + 1 + 1 + 1 + 1 + 1 + 1 + 1, 0, none⟩) 2 2]) rfl kT0 (by simp [maxLen]) _ _ rfl (by simp) _
  exact up _ _ _ _ (up _ _ _ _ (up _ _ _ _ (up _ _ _ _ kT)))

theorem aw_ints (w : World) : IntsR (((((((((((((w.alloc (.cells #[.int .i64 2, .string ⟨#[120]⟩, .int .i64 0, .slice none 0 0] 24)).alloc (.cells #[.int .i64 2, .string ⟨#[97]⟩, .int .i64 0, .slice none 0 0] 24)).alloc (.cells #[.int .i64 2, .string ⟨#[97]⟩, .int .i64 0, .slice none 0 0] 24)).alloc (.cells #[.int .i64 1, .string ⟨#[]⟩, .int .i64 0, .slice (some ⟨w.heap.size + 1 + 1, 0, none⟩) 1 1] 24)).alloc (.cells #[.int .i64 2, .string ⟨#[98]⟩, .int .i64 0, .slice none 0 0] 24)).alloc (.cells #[.int .i64 2, .string ⟨#[98]⟩, .int .i64 0, .slice none 0 0] 24)).alloc (.cells #[.int .i64 1, .string ⟨#[]⟩, .int .i64 0, .slice (some ⟨w.heap.size + 1 + 1 + 1 + 1 + 1, 0, none⟩) 1 1] 24)).alloc (.cells #[.int .i64 1, .string ⟨#[]⟩, .int .i64 0, .slice (some ⟨w.heap.size + 1 + 1, 0, none⟩) 1 1, .int .i64 1, .string ⟨#[]⟩, .int .i64 0, .slice (some ⟨w.heap.size + 1 + 1 + 1 + 1 + 1, 0, none⟩) 1 1] 24)).alloc (.cells #[.int .i64 2, .string ⟨#[120]⟩, .int .i64 0, .slice none 0 0, .int .i64 5, .string ⟨#[]⟩, .int .i64 0, .slice (some ⟨w.heap.size + 1 + 1 + 1 + 1 + 1 + 1 + 1, 0, none⟩) 2 2] 24)).alloc (.cells #[.int .i64 1, .string ⟨#[]⟩, .int .i64 0, .slice (some ⟨w.heap.size + 1 + 1 + 1 + 1 + 1 + 1 + 1 + 1, 0, none⟩) 2 2] 24)).alloc (.cells #[.int .i64 1, .string ⟨#[]⟩, .int .i64 0, .slice (some ⟨w.heap.size + 1 + 1 + 1 + 1 + 1 + 1 + 1 + 1, 0, none⟩) 2 2] 24)).alloc (.cells #[.int .i64 1, .int .i64 0, .int .i64 0] 3)).alloc (.cells #[.int .i64 1, .int .i64 1, .int .i64 1] 3)) (Lt (((((((((((((w.alloc (.cells #[.int .i64 2, .string ⟨#[120]⟩, .int .i64 0, .slice none 0 0] 24)).alloc (.cells #[.int .i64 2, .string ⟨#[97]⟩, .int .i64 0, .slice none 0 0] 24)).alloc (.cells #[.int .i64 2, .string ⟨#[97]⟩, .int .i64 0, .slice none 0 0] 24)).alloc (.cells #[.int .i64 1, .string ⟨#[]⟩, .int .i64 0, .slice (some ⟨w.heap.size + 1 + 1, 0, none⟩) 1 1] 24)).alloc (.cells #[.int .i64 2, .string ⟨#[98]⟩, .int .i64 0, .slice none 0 0] 24)).alloc (.cells #[.int .i64 2, .string ⟨#[98]⟩, .int .i64 0, .slice none 0 0] 24)).alloc (.cells #[.int .i64 1, .string ⟨#[]⟩, .int .i64 0, .slice (some ⟨w.heap.size + 1 + 1 + 1 + 1 + 1, 0, none⟩) 1 1] 24)).alloc (.cells #[.int .i64 1, .string ⟨#[]⟩, .int .i64 0, .slice (some ⟨w.heap.size + 1 + 1, 0, none⟩) 1 1, .int .i64 1, .string ⟨#[]⟩, .int .i64 0, .slice (some ⟨w.heap.size + 1 + 1 + 1 + 1 + 1, 0, none⟩) 1 1] 24)).alloc (.cells #[.int .i64 2, .string ⟨#[120]⟩, .int .i64 0, .slice none 0 0, .int .i64 5, .string ⟨#[]⟩, .int .i64 0, .slice (some ⟨w.heap.size + 1 + 1 + 1 + 1 + 1 + 1 + 1, 0, none⟩) 2 2] 24)).alloc (.cells #[.int .i64 1, .string ⟨#[]⟩, .int .i64 0, .slice (some ⟨w.heap.size + 1 + 1 + 1 + 1 + 1 + 1 + 1 + 1, 0, none⟩) 2 2] 24)).alloc (.cells #[.int .i64 1, .string ⟨#[]⟩, .int .i64 0, .slice (some ⟨w.heap.size + 1 + 1 + 1 + 1 + 1 + 1 + 1 + 1, 0, none⟩) 2 2] 24)).alloc (.cells #[.int .i64 1, .int .i64 0, .int .i64 0] 3)).alloc (.cells #[.int .i64 1, .int .i64 1, .int .i64 1] 3)).heap.size) [1, 0, 0] (.slice (some ⟨w.heap.size + 1 + 1 + 1 + 1 + 1 + 1 + 1 + 1 + 1 + 1 + 1, 0, none⟩) 3 3) ∧ IntsR (((((((((((((w.alloc (.cells #[.int .i64 2, .string ⟨#[120]⟩, .int .i64 0, .slice none 0 0] 24)).alloc (.cells #[.int .i64 2, .string ⟨#[97]⟩, .int .i64 0, .slice none 0 0] 24)).alloc (.cells #[.int .i64 2, .string ⟨#[97]⟩, .int .i64 0, .slice none 0 0] 24)).alloc (.cells #[.int .i64 1, .string ⟨#[]⟩, .int .i64 0, .slice (some ⟨w.heap.size + 1 + 1, 0, none⟩) 1 1] 24)).alloc (.cells #[.int .i64 2, .string ⟨#[98]⟩, .int .i64 0, .slice none 0 0] 24)).alloc (.cells #[.int .i64 2, .string ⟨#[98]⟩, .int .i64 0, .slice none 0 0] 24)).alloc (.cells #[.int .i64 1, .string ⟨#[]⟩, .int .i64 0, .slice (some ⟨w.heap.size + 1 + 1 + 1 + 1 + 1, 0, none⟩) 1 1] 24)).alloc (.cells #[.int .i64 1, .string ⟨#[]⟩, .int .i64 0, .slice (some ⟨w.heap.size + 1 + 1, 0, none⟩) 1 1, .int .i64 1, .string ⟨#[]⟩, .int .i64 0, .slice (some ⟨w.heap.size + 1 + 1 + 1 + 1 + 1, 0, none⟩) 1 1] 24)).alloc (.cells #[.int .i64 2, .string ⟨#[120]⟩, .int .i64 0, .slice none 0 0, .int .i64 5, .string ⟨#[]⟩, .int .i64 0, .slice (some ⟨w.heap.size + 1 + 1 + 1 + 1 + 1 + 1 + 1, 0, none⟩) 2 2] 24)).alloc (.cells #[.int .i64 1, .string ⟨#[]⟩, .int .i64 0, .slice (some ⟨w.heap.size + 1 + 1 + 1 + 1 + 1 + 1 + 1 + 1, 0, none⟩) 2 2] 24)).alloc (.cells #[.int .i64 1, .string ⟨#[]⟩, .int .i64 0, .slice (some ⟨w.heap.size + 1 + 1 + 1 + 1 + 1 + 1 + 1 + 1, 0, none⟩) 2 2] 24)).alloc (.cells #[.int .i64 1, .int .i64 0, .int .i64 0] 3)).alloc (.cells #[.int .i64 1, .int .i64 1, .int .i64 1] 3)) (Lt (((((((((((((w.alloc (.cells #[.int .i64 2, .string ⟨#[120]⟩, .int .i64 0, .slice none 0 0] 24)).alloc (.cells #[.int .i64 2, .string ⟨#[97]⟩, .int .i64 0, .slice none 0 0] 24)).alloc (.cells #[.int .i64 2, .string ⟨#[97]⟩, .int .i64 0, .slice none 0 0] 24)).alloc (.cells #[.int .i64 1, .string ⟨#[]⟩, .int .i64 0, .slice (some ⟨w.heap.size + 1 + 1, 0, none⟩) 1 1] 24)).alloc (.cells #[.int .i64 2, .string ⟨#[98]⟩, .int .i64 0, .slice none 0 0] 24)).alloc (.cells #[.int .i64 2, .string ⟨#[98]⟩, .int .i64 0, .slice none 0 0] 24)).alloc (.cells #[.int .i64 1, .string ⟨#[]⟩, .int .i64 0, .slice (some ⟨w.heap.size + 1 + 1 + 1 + 1 + 1, 0, none⟩) 1 1] 24)).alloc (.cells #[.int .i64 1, .string ⟨#[]⟩, .int .i64 0, .slice (some ⟨w.heap.size + 1 + 1, 0, none⟩) 1 1, .int .i64 1, .string ⟨#[]⟩, .int .i64 0, .slice (some ⟨w.heap.size + 1 + 1 + 1 + 1 + 1, 0, none⟩) 1 1] 24)).alloc (.cells #[.int .i64 2, .string ⟨#[120]⟩, .int .i64 0, .slice none 0 0, .int .i64 5, .string ⟨#[]⟩, .int .i64 0, .slice (some ⟨w.heap.size + 1 + 1 + 1 + 1 + 1 + 1 + 1, 0, none⟩) 2 2] 24)).alloc (.cells #[.int .i64 1, .string ⟨#[]⟩, .int .i64 0, .slice (some ⟨w.heap.size + 1 + 1 + 1 + 1 + 1 + 1 + 1 + 1, 0, none⟩) 2 2] 24)).alloc (.cells #[.int .i64 1, .string ⟨#[]⟩, .int .i64 0, .slice (some ⟨w.heap.size + 1 + 1 + 1 + 1 + 1 + 1 + 1 + 1, 0, none⟩) 2 2] 24)).alloc (.cells #[.int .i64 1, .int .i64 0, .int .i64 0] 3)).alloc (.cells #[.int .i64 1, .int .i64 1, .int .i64 1] 3)).heap.size) [1, 1, 1] (.slice (some ⟨w.heap.size + 1 + 1 + 1 + 1 + 1 + 1 + 1 + 1 + 1 + 1 + 1 + 1, 0, none⟩) 3 3) := by
  have h1 := ints_lit (((((((((((w.alloc (.cells #[.int .i64 2, .string ⟨#[120]⟩, .int .i64 0, .slice none 0 0] 24)).alloc (.cells #[.int .i64 2, .string ⟨#[97]⟩, .int .i64 0, .slice none 0 0] 24)).alloc (.cells #[.int .i64 2, .string ⟨#[97]⟩, .int .i64 0, .slice none 0 0] 24)).alloc (.cells #[.int .i64 1, .string ⟨#[]⟩, .int .i64 0, .slice (some ⟨w.heap.size + 1 + 1, 0, none⟩) 1 1] 24)).alloc (.cells #[.int .i64 2, .string ⟨#[98]⟩, .int .i64 0, .slice none 0 0] 24)).alloc (.cells #[.int .i64 2, .string ⟨#[98]⟩, .int .i64 0, .slice none 0 0] 24)).alloc (.cells #[.int .i64 1, .string ⟨#[]⟩, .int .i64 0, .slice (some ⟨w.heap.size + 1 + 1 + 1 + 1 + 1, 0, none⟩) 1 1] 24)).alloc (.cells #[.int .i64 1, .string ⟨#[]⟩, .int .i64 0, .slice (some ⟨w.heap.size + 1 + 1, 0, none⟩) 1 1, .int .i64 1, .string ⟨#[]⟩, .int .i64 0, .slice (some ⟨w.heap.size + 1 + 1 + 1 + 1 + 1, 0, none⟩) 1 1] 24)).alloc (.cells #[.int .i64 2, .string ⟨#[120]⟩, .int .i64 0, .slice none 0 0, .int .i64 5, .string ⟨#[]⟩, .int .i64 0, .slice (some ⟨w.heap.size + 1 + 1 + 1 + 1 + 1 + 1 + 1, 0, none⟩) 2 2] 24)).alloc (.cells #[.int .i64 1, .string ⟨#[]⟩, .int .i64 0, .slice (some ⟨w.heap.size + 1 + 1 + 1 + 1 + 1 + 1 + 1 + 1, 0, none⟩) 2 2] 24)).alloc (.cells #[.int .i64 1, .string ⟨#[]⟩, .int .i64 0, .slice (some ⟨w.heap.size + 1 + 1 + 1 + 1 + 1 + 1 + 1 + 1, 0, none⟩) 2 2] 24)) [1, 0, 0] (by simp [In64]) (S := Lt ((((((((((((w.alloc (.cells #[.int .i64 2, .string ⟨#[120]⟩, .int .i64 0, .slice none 0 0] 24)).alloc (.cells #[.int .i64 2, .string ⟨#[97]⟩, .int .i64 0, .slice none 0 0] 24)).alloc (.cells #[.int .i64 2, .string ⟨#[97]⟩, .int .i64 0, .slice none 0 0] 24)).alloc (.cells #[.int .i64 1, .string ⟨#[]⟩, .int .i64 0, .slice (some ⟨w.heap.size + 1 + 1, 0, none⟩) 1 1] 24)).alloc (.cells #[.int .i64 2, .string ⟨#[98]⟩, .int .i64 0, .slice none 0 0] 24)).alloc (.cells #[.int .i64 2, .string ⟨#[98]⟩, .int .i64 0, .slice none 0 0] 24)).alloc (.cells #[.int .i64 1, .string ⟨#[]⟩, .int .i64 0, .slice (some ⟨w.heap.size + 1 + 1 + 1 + 1 + 1, 0, none⟩) 1 1] 24)).alloc (.cells #[.int .i64 1, .string ⟨#[]⟩, .int .i64 0, .slice (some ⟨w.heap.size + 1 + 1, 0, none⟩) 1 1, .int .i64 1, .string ⟨#[]⟩, .int .i64 0, .slice (some ⟨w.heap.size + 1 + 1 + 1 + 1 + 1, 0, none⟩) 1 1] 24)).alloc (.cells #[.int .i64 2, .string ⟨#[120]⟩, .int .i64 0, .slice none 0 0, .int .i64 5, .string ⟨#[]⟩, .int .i64 0, .slice (some ⟨w.heap.size + 1 + 1 + 1 + 1 + 1 + 1 + 1, 0, none⟩) 2 2] 24)).alloc (.cells #[.int .i64 1, .string ⟨#[]⟩, .int .i64 0, .slice (some ⟨w.heap.size + 1 + 1 + 1 + 1 + 1 + 1 + 1 + 1, 0, none⟩) 2 2] 24)).alloc (.cells #[.int .i64 1, .string ⟨#[]⟩, .int .i64 0, .slice (some ⟨w.heap.size + 1 + 1 + 1 + 1 + 1 + 1 + 1 + 1, 0, none⟩) 2 2] 24)).alloc (.cells #[.int .i64 1, .int .i64 0, .int .i64 0] 3)).heap.size) (by unfold Lt; simp) #[.int .i64 1, .int .i64 0, .int .i64 0] 3 rfl rfl (by simp [maxLen]) 3 (w.heap.size + 1 + 1 + 1 + 1 + 1 + 1 + 1 + 1 + 1 + 1 + 1) (by simp)
  exact ⟨h1.below (below_allocR' _ _) (below_allocR' _ _).size, ints_lit ((((((((((((w.alloc (.cells #[.int .i64 2, .string ⟨#[120]⟩, .int .i64 0, .slice none 0 0] 24)).alloc (.cells #[.int .i64 2, .string ⟨#[97]⟩, .int .i64 0, .slice none 0 0] 24)).alloc (.cells #[.int .i64 2, .string ⟨#[97]⟩, .int .i64 0, .slice none 0 0] 24)).alloc (.cells #[.int .i64 1, .string ⟨#[]⟩, .int .i64 0, .slice (some ⟨w.heap.size + 1 + 1, 0, none⟩) 1 1] 24)).alloc (.cells #[.int .i64 2, .string ⟨#[98]⟩, .int .i64 0, .slice none 0 0] 24)).alloc (.cells #[.int .i64 2, .string ⟨#[98]⟩, .int .i64 0, .slice none 0 0] 24)).alloc (.cells #[.int .i64 1, .string ⟨#[]⟩, .int .i64 0, .slice (some ⟨w.heap.size + 1 + 1 + 1 + 1 + 1, 0, none⟩) 1 1] 24)).alloc (.cells #[.int .i64 1, .string ⟨#[]⟩, .int .i64 0, .slice (some ⟨w.heap.size + 1 + 1, 0, none⟩) 1 1, .int .i64 1, .string ⟨#[]⟩, .int .i64 0, .slice (some ⟨w.heap.size + 1 + 1 + 1 + 1 + 1, 0, none⟩) 1 1] 24)).alloc (.cells #[.int .i64 2, .string ⟨#[120]⟩, .int .i64 0, .slice none 0 0, .int .i64 5, .string ⟨#[]⟩, .int .i64 0, .slice (some ⟨w.heap.size + 1 + 1 + 1 + 1 + 1 + 1 + 1, 0, none⟩) 2 2] 24)).alloc (.cells #[.int .i64 1, .string ⟨#[]⟩, .int .i64 0, .slice (some ⟨w.heap.size + 1 + 1 + 1 + 1 + 1 + 1 + 1 + 1, 0, none⟩) 2 2] 24)).alloc (.cells #[.int .i64 1, .string ⟨#[]⟩, .int .i64 0, .slice (some ⟨w.heap.size + 1 + 1 + 1 + 1 + 1 + 1 + 1 + 1, 0, none⟩) 2 2] 24)).alloc (.cells #[.int .i64 1, .int .i64 0, .int .i64 0] 3)) [1, 1, 1] (by simp [In64]) (by unfold Lt; simp) _ 3 rfl rfl (by simp [maxLen]) _ _ (by simp)⟩

theorem aw_below (w : World) : Below w.heap.size w (((((((((((((w.alloc (.cells #[.int .i64 2, .string ⟨#[120]⟩, .int .i64 0, .slice none 0 0] 24)).alloc (.cells #[.int .i64 2, .string ⟨#[97]⟩, .int .i64 0, .slice none 0 0] 24)).alloc (.cells #[.int .i64 2, .string ⟨#[97]⟩, .int .i64 0, .slice none 0 0] 24)).alloc (.cells #[.int .i64 1, .string ⟨#[]⟩, .int .i64 0, .slice (some ⟨w.heap.size + 1 + 1, 0, none⟩) 1 1] 24)).alloc (.cells #[.int .i64 2, .string ⟨#[98]⟩, .int .i64 0, .slice none 0 0] 24)).alloc (.cells #[.int .i64 2, .string ⟨#[98]⟩, .int .i64 0, .slice none 0 0] 24)).alloc (.cells #[.int .i64 1, .string ⟨#[]⟩, .int .i64 0, .slice (some ⟨w.heap.size + 1 + 1 + 1 + 1 + 1, 0, none⟩) 1 1] 24)).alloc (.cells #[.int .i64 1, .string ⟨#[]⟩, .int .i64 0, .slice (some ⟨w.heap.size + 1 + 1, 0, none⟩) 1 1, .int .i64 1, .string ⟨#[]⟩, .int .i64 0, .slice (some ⟨w.heap.size + 1 + 1 + 1 + 1 + 1, 0, none⟩) 1 1] 24)).alloc (.cells #[.int .i64 2, .string ⟨#[120]⟩, .int .i64 0, .slice none 0 0, .int .i64 5, .string ⟨#[]⟩, .int .i64 0, .slice (some ⟨w.heap.size + 1 + 1 + 1 + 1 + 1 + 1 + 1, 0, none⟩) 2 2] 24)).alloc (.cells #[.int .i64 1, .string ⟨#[]⟩, .int .i64 0, .slice (some ⟨w.heap.size + 1 + 1 + 1 + 1 + 1 + 1 + 1 + 1, 0, none⟩) 2 2] 24)).alloc (.cells #[.int .i64 1, .string ⟨#[]⟩, .int .i64 0, .slice (some ⟨w.heap.size + 1 + 1 + 1 + 1 + 1 + 1 + 1 + 1, 0, none⟩) 2 2] 24)).alloc (.cells #[.int .i64 1, .int .i64 0, .int .i64 0] 3)).alloc (.cells #[.int .i64 1, .int .i64 1, .int .i64 1] 3)) := by
  repeat (first | exact Below.refl _ _ | refine bl_alloc ?_ _)

end Go.Proofs.YtmahiejfniaahaaDoor
/- law42: SameInts, Rule, ToRow, Row of the reference; awake. -/
set_option linter.unusedVariables false
set_option linter.unusedSimpArgs false
set_option maxRecDepth 100000
namespace Go.Proofs.YtmahiejfniaahaaDoor
open Go.RowKit

set_option maxHeartbeats 2000000 in
theorem sameI_q (xs ys : List Int) (w : World) (S S' : Nat → Prop) (A B : Option Addr) (ca cb : Nat) (ha : IntsR w S xs (.slice A xs.length ca)) (hb : IntsR w S' ys (.slice B ys.length cb)) :
    Calls Tryd.prog 28 #[.slice A xs.length ca, .slice B ys.length cb] w fun e w' => e = .returned (.bool (decide (xs = ys))) ∧ ∃ n, w' = w.drewN n := by
  have hm := ha.lens
  have hm2 := hb.lens
  unfold maxLen at hm hm2
  obtain ⟨_, _, rs, e, _, _, hrd, hls⟩ := ha
  cases e
  obtain ⟨_, _, rs', e, _, _, hrd', hls'⟩ := hb
  cases e
  by_cases hl : xs.length = ys.length
  rotate_left
  · have i0 : ((xs.length : Int) != (ys.length : Int)) = true := by simp; omega
    have hF : decide (xs = ys) = false := by rw [decide_eq_false_iff_not]; intro h; subst h; exact hl rfl
    rw [hF]
    clear hF hrd hls hrd' hls' hl
    go_enter Tryd.func28, Tryd.ntmps28
    go_wp2_with fail
    go_ret
    exact ⟨rfl, 0, rfl⟩
  have HL := hid hl
  have HX : Hid (∀ k (hk : k < xs.length), ∃ g o, A = some ⟨g, o, none⟩ ∧ w.cell? ⟨g, o + k, none⟩ = some (.int .i64 xs[k])) := fun k hk => by
    obtain ⟨g, o, e, _, _, hc⟩ := ints_at hrd hls hk
    exact ⟨g, o, e, hc⟩
  have HY : Hid (∀ k (hk : k < ys.length), ∃ g o, B = some ⟨g, o, none⟩ ∧ w.cell? ⟨g, o + k, none⟩ = some (.int .i64 ys[k])) := fun k hk => by
    obtain ⟨g, o, e, _, _, hc⟩ := ints_at hrd' hls' hk
    exact ⟨g, o, e, hc⟩
  have i0 : ((xs.length : Int) != (ys.length : Int)) = false := by simp; omega
  obtain ⟨R, hR⟩ : ∃ R, decide (xs = ys) = R := ⟨_, rfl⟩
  rw [hR]
  have HR := hid hR
  clear hrd hls hrd' hls' hl hR
  go_enter Tryd.func28, Tryd.ntmps28
  go_wp2_with fail
  go_loopw [5] (fun i wr => (∃ n, wr = w.drewN n) ∧ ∃ k : Nat, k ≤ xs.length ∧ i = .int .i64 k ∧ xs.take k = ys.take k) (fun i _ => xs.length - (intOf i).toNat)
  case atStart => exact ⟨⟨0, rfl⟩, 0, Nat.zero_le _, rfl, rfl⟩
  case round =>
    obtain ⟨⟨n, rfl⟩, k, hk, rfl, htk⟩ := hrel
    have HT := hid htk
    clear htk
    rcases Nat.lt_or_ge k xs.length with hlt | hge
    · have hlt2 : k < ys.length := by have := HL.out; omega
      obtain ⟨g, o, rfl, hc⟩ := HX.out k hlt
      obtain ⟨g2, o2, rfl, hc2⟩ := HY.out k hlt2
      have HN : Hid (xs.take (k + 1) = ys.take (k + 1) ↔ xs[k] = ys[k]) := by
        show _ ↔ _
        rw [List.take_succ_eq_append_getElem hlt, List.take_succ_eq_append_getElem hlt2, HT.out]
        exact ⟨fun h => by have h2 := List.append_cancel_left h; injection h2, fun h => by rw [h]⟩
      have i1 : decide ((k : Int) < (xs.length : Int)) = true := by rw [decide_eq_true_eq]; omega
      have i2 : (0 : Int) ≤ (k : Int) := by omega
      have i3 : (k : Int) < (xs.length : Int) := by omega
      have i4 : (k : Int) < (ys.length : Int) := by omega
      generalize xs[k] = x at *
      generalize ys[k] = y at *
      by_cases hxy : x = y
      · subst hxy
        have d0 : (x != x) = false := by simp
        go_wp2_with fail
        go_quiet (fail)
        go_wp2_with fail
        go_roundw
        case rel => exact ⟨by first | exact ⟨_, rfl⟩ | (simp only [World.drewN_drewN]; exact ⟨_, rfl⟩), k + 1, by omega, by go_num, HN.out.2 (by trivial)⟩
        case measure => simp [intOf]; omega
      · have d0 : (x != y) = true := by simpa using hxy
        have hF : R = false := by
          rw [← HR.out, decide_eq_false_iff_not]
          intro h
          exact hxy (HN.out.1 (by rw [h]))
        have HF := hid hF
        clear hF
        go_wp2_with fail
        go_quiet (fail)
        go_wp2_with fail
        go_ret
        exact ⟨by rw [HF.out]; rfl, by first | exact ⟨_, rfl⟩ | (simp only [World.drewN_drewN]; exact ⟨_, rfl⟩)⟩
    · have i1 : decide ((k : Int) < (xs.length : Int)) = false := by rw [decide_eq_false_iff_not]; omega
      have hF : R = true := by
        rw [← HR.out, decide_eq_true_eq]
        have h := HT.out
        rw [List.take_of_length_le hge, List.take_of_length_le (by have := HL.out; omega)] at h
        exact h
      have HF := hid hF
      clear hF
      go_wp2_with fail
      go_ret
      exact ⟨by rw [HF.out]; rfl, _, rfl⟩

def ruleF (a b c : Int) : BxF := ⟨2, ⟨#[]⟩, 0, a, b, c, 0, 0, 0, []⟩
def ruleB (a b c : Int) : Bx := .mk (ruleF a b c) []
theorem rule1_valid : validB (ruleB 1 1 1) = true := by decide +kernel
theorem rule_any (a b c : Int) (w : World) :
    Calls Tryd.prog 30 #[.int .i64 a, .int .i64 b, .int .i64 c] w fun e w' => e = .returned (.agg #[.int .i64 2, .string ⟨#[]⟩, .int .i64 0, .int .i64 a, .int .i64 b, .int .i64 c, .int .i64 0, .int .i64 0, .slice none 0 0, .int .i64 0, .slice none 0 0]) ∧ Below w.heap.size w w' := by
  go_enter Tryd.func30, Tryd.ntmps30
  go_wp2_with fail
  refine bodyPost_ret (v := .agg #[.int .i64 2, .string ⟨#[]⟩, .int .i64 0, .int .i64 a, .int .i64 b, .int .i64 c, .int .i64 0, .int .i64 0, .slice none 0 0, .int .i64 0, .slice none 0 0]) (by simp [results, Tryd.results30, go_sem]) rfl ⟨rfl, bNew _ _⟩
theorem toRow42 (w : World) (A : Option Addr) (n c : Nat) :
    Calls Tryd.prog 29 #[.slice A n c] w fun e w' => e = .returned (.agg #[.int .i64 1, .string ⟨#[]⟩, .int .i64 0, .slice A n c]) ∧ Below w.heap.size w w' := by
  go_enter Tryd.func29, Tryd.ntmps29
  go_wp2_with fail
  refine bodyPost_ret (v := .agg #[.int .i64 1, .string ⟨#[]⟩, .int .i64 0, .slice A n c]) (by simp [results, Tryd.results29, go_sem]) rfl ⟨rfl, bNew _ _⟩
/-- The rule as an argument. -/
theorem ruleIn (w : World) (a b c : Int) (ha : In64 a) (hb : In64 b) (hc : In64 c) : BoxIn w (ruleB a b c) none none 0 0 :=
  ⟨⟨by simp [ruleB, ruleF, Bx.f, In64], Nat.zero_le _, by simp [ruleB, ruleF, Bx.f, In64], ha, hb, hc, by simp [ruleB, ruleF, Bx.f, In64], by simp [ruleB, ruleF, Bx.f, In64], by simp [ruleB, ruleF, Bx.f, In64]⟩, SliceR.nil_ 0 (Nat.zero_le _) none, SliceR.nil_ 0 (Nat.zero_le _) none⟩
end Go.Proofs.YtmahiejfniaahaaDoor
/- vinculumlaw11.few; ref11.Same; how a part comes back. -/
set_option linter.unusedVariables false
set_option linter.unusedSimpArgs false
set_option maxRecDepth 100000
namespace Go.Proofs.YtmahiejfniaahaaDoor
open Go.RowKit

mutual
theorem leftS_count : (t : Tree) → (m : Int) → 0 ≤ leftS t m → leftS t m = m - countS t
  | .mk _ _ _ ts, m, h => by
    rw [leftS] at h ⊢
    rw [countS, leftsS_count ts (m - 1) h]; omega
theorem leftsS_count : (ts : List Tree) → (m : Int) → 0 ≤ leftsS ts m → leftsS ts m = m - countsS ts
  | [], m, h => by rw [leftsS, countsS]; omega
  | t :: ts, m, h => by
    rw [leftsS] at h ⊢
    split at h
    · rename_i h0
      rw [if_pos h0]
      have h1 := leftsS_count ts (leftS t m) h
      have h2 := leftS_count t m (by omega)
      rw [h1, h2, countsS]; omega
    · rename_i h0; omega
end
theorem few_count {t : Tree} {m : Int} (h : fewS t m = true) : (countS t : Int) ≤ m := by
  unfold fewS at h
  have h' : 0 ≤ leftS t m := by simpa using h
  have := leftS_count t m h'
  omega

def few11S (t : Tree) (a b : List Int) : Bool := fewS t 100 && decide (a.length ≤ 60) && decide (b.length ≤ 60)
def betV (b1 b2 b3 : Bool) (r : List Int × Int × Int) : (List Int × Int × Int) × Int := if b1 = false then (([], 0, 0), 1) else if (b2 && b3) = false then (([], 0, 0), 2) else (r, 0)
def BetV (w : World) (x : (List Int × Int × Int) × Int) (e : Ending) (w' : World) : Prop :=
  ∃ v, e = .returned (.tuple #[.agg #[v, .int .i64 x.1.2.1, .int .i64 x.1.2.2], .int .i64 x.2]) ∧ IntsR w' (fun k => w.heap.size ≤ k ∧ k < w'.heap.size) x.1.1 v ∧ Below w.heap.size w w'
theorem BetRes.v {w w' : World} {b1 b2 b3 : Bool} {r : List Int × Int × Int} {e : Ending} (h : BetRes w b1 b2 b3 r e w') : BetV w (betV b1 b2 b3 r) e w' := by
  obtain ⟨hb, (⟨rfl, rfl⟩ | ⟨rfl, h2, rfl⟩ | ⟨rfl, rfl, rfl, v, rfl, hi⟩)⟩ := h
  · exact ⟨_, rfl, SliceR.nil_ 0 (by simp) none, hb⟩
  · unfold betV; rw [if_neg (by simp), if_pos h2]; exact ⟨_, rfl, SliceR.nil_ 0 (by simp) none, hb⟩
  · exact ⟨v, rfl, hi, hb⟩
end Go.Proofs.YtmahiejfniaahaaDoor
/- vinculumlaw10.awake, few; position.First, Last. -/
set_option linter.unusedVariables false
set_option linter.unusedSimpArgs false
set_option maxRecDepth 100000
namespace Go.Proofs.YtmahiejfniaahaaDoor
open Go.RowKit

def awT10 : Tree := rowT' [symT ⟨#[120]⟩, .mk 5 ⟨#[]⟩ 0 [rowT' [], rowT' []]]
theorem awT10_form : formS awT10 = true := by
  simp only [awT10, rowT', symT, formS, formsS, tx0 1 (.inl rfl), tx0 5 (.inr rfl), txx, List.length_cons, List.length_nil]
  decide +kernel
theorem awT10_valid : validS awT10 = true := by
  unfold validS
  rw [awT10_form]
  decide +kernel
theorem awT10_in : posIn awT10 [1, 0, 0] = true := by decide +kernel
theorem awT10_next : nextR awT10 [1, 0, 0] = ([1, 1, 0], 0) := by
  rw [nextR, awT10_valid, awT10_in]
  have : nextS (allS [] awT10) [1, 0, 0] = some [1, 1, 0] := by decide +kernel
  rw [this]; rfl

theorem trees2 (W : World) (t1 t2 : Tree) (a0 a1 a2 a3 b0 b1 b2 b3 : Value) (h1 : treeE.R W (Lt W.heap.size) t1 [a0, a1, a2, a3]) (h2 : treeE.R W (Lt W.heap.size) t2 [b0, b1, b2, b3]) (g : Nat) (hg : g = W.heap.size) (e : TypeId) (W' : World) (hW' : W' = W.alloc (.cells #[a0, a1, a2, a3, b0, b1, b2, b3] e)) :
    SliceR treeE W' (Lt W'.heap.size) [t1, t2] (.slice (some ⟨g, 0, none⟩) 2 2) := by
  subst hW'
  have hL : ListR treeE W (Lt W.heap.size) [t1, t2] [a0, a1, a2, a3, b0, b1, b2, b3] := ListR.append (xs := [t1]) (ys := [t2]) (cs := [a0, a1, a2, a3]) (ds := [b0, b1, b2, b3]) (ListR.single (E := treeE) h1) (ListR.single (E := treeE) h2)
  exact trees_lit W [t1, t2] #[a0, a1, a2, a3, b0, b1, b2, b3] _ rfl hL (by simp [maxLen]) 2 g rfl hg e

theorem aw10_read (w W1 W2 W3 W4 : World) (e1 : W1 = w.alloc (.cells #[.int .i64 1, .string ⟨#[]⟩, .int .i64 0, .slice none 0 0, .int .i64 1, .string ⟨#[]⟩, .int .i64 0, .slice none 0 0] 24))
    (e2 : W2 = W1.alloc (.cells #[.int .i64 2, .string ⟨#[120]⟩, .int .i64 0, .slice none 0 0, .int .i64 5, .string ⟨#[]⟩, .int .i64 0, .slice (some ⟨w.heap.size, 0, none⟩) 2 2] 24))
    (e3 : W3 = W2.alloc (.cells #[.int .i64 1, .string ⟨#[]⟩, .int .i64 0, .slice (some ⟨w.heap.size + 1, 0, none⟩) 2 2] 24)) (e4 : W4 = W3.alloc (.cells #[.int .i64 1, .int .i64 0, .int .i64 0] 3)) :
    SliceR treeE W4 (Lt W4.heap.size) awT10.kids (.slice (some ⟨w.heap.size + 1, 0, none⟩) 2 2) ∧ IntsR W4 (Lt W4.heap.size) [1, 0, 0] (.slice (some ⟨w.heap.size + 1 + 1 + 1, 0, none⟩) 3 3) ∧ Below w.heap.size w W4 := by
  have r0 : ∀ W S, treeE.R W S (rowT' []) [.int .i64 1, .string ⟨#[]⟩, .int .i64 0, .slice none 0 0] := fun W S => tree_cells W S 1 0 ⟨#[]⟩ [] _ (by simp [In64]) (by simp [In64]) (sz_le (by decide)) (SliceR.nil_ 0 (by simp) none)
  have hb1 : Below w.heap.size w W1 := by rw [e1]; exact below_allocR' _ _
  have hb2 : Below w.heap.size w W2 := by rw [e2]; exact bl_alloc hb1 _
  have hb23 : Below W2.heap.size W2 W3 := by rw [e3]; exact below_allocR' _ _
  have hb24 : Below W2.heap.size W2 W4 := by rw [e4]; exact bl_alloc hb23 _
  have s1 : W1.heap.size = w.heap.size + 1 := by rw [e1]; simp
  have s2 : W2.heap.size = w.heap.size + 1 + 1 := by rw [e2]; simp [s1]
  have s3 : W3.heap.size = w.heap.size + 1 + 1 + 1 := by rw [e3]; simp [s2]
  have k1 := trees2 w _ _ _ _ _ _ _ _ _ _ (r0 w _) (r0 w _) w.heap.size rfl 24 W1 e1
  have k2 := trees2 W1 (symT ⟨#[120]⟩) (.mk 5 ⟨#[]⟩ 0 [rowT' [], rowT' []]) _ _ _ _ _ _ _ _ (sym_cells _ _ _ (sz_le (by decide))) (tree_cells _ _ 5 0 ⟨#[]⟩ _ _ (by simp [In64]) (by simp [In64]) (sz_le (by decide)) k1) (w.heap.size + 1) s1.symm 24 W2 e2
  refine ⟨k2.below hb24 hb24.size, ?_, hb2.trans (hb24.mono hb2.size)⟩
  subst e4
  exact ints_lit W3 [1, 0, 0] (by simp [In64]) (by unfold Lt; simp) _ 3 rfl rfl (by simp [maxLen]) _ _ s3.symm

def few10S (t : Tree) (a : List Int) : Bool := fewS t 200 && decide (a.length ≤ 60)
theorem few10_count {t : Tree} {a : List Int} (h : few10S t a = true) : countS t ≤ 200 ∧ a.length ≤ 60 := by
  unfold few10S at h
  simp only [Bool.and_eq_true, decide_eq_true_eq] at h
  exact ⟨by have := few_count h.1; omega, h.2⟩

end Go.Proofs.YtmahiejfniaahaaDoor
