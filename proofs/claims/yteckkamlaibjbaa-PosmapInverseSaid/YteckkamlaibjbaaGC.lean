/- Texts put together: ChgA, ChgB, ChgC. -/
import Derived.Test.YteckkamlaibjbaaGB
import Derived.Test.YteckkamlaibjbaaNode7
/- ref12.change: insert. Written by wip/genchg.py. -/
set_option linter.unusedVariables false
set_option linter.unusedSimpArgs false
set_option maxRecDepth 100000
namespace Go.Proofs.Yteckkamlaibjbaa
open Go.RowKit

def sameS (xs ys : List Tree) : Bool := xs.length == ys.length && eqsS xs ys
def needS (op : OpD) : Int := if op.kind = 1 then 0 else if op.kind = 2 then op.nodes.length else if op.kind = 3 then op.n else 1
def textKind (k : Int) : Bool := decide (k = 2 ∨ k = 3 ∨ k = 4 ∨ k = 10 ∨ k = 11)
/-- The row behind an operation, and the error. -/
def changeS (l : List Tree) (op : OpD) : List Tree × Int :=
  if op.at_ < 0 ∨ (l.length : Int) < op.at_ ∨ (l.length : Int) - op.at_ < needS op then ([], 2)
  else if op.kind = 1 then (spliceS l op.at_.toNat op.at_.toNat op.nodes, 0)
  else if op.kind = 2 then (if sameS ((l.take (op.at_ + op.nodes.length).toNat).drop op.at_.toNat) op.nodes = true then (spliceS l op.at_.toNat (op.at_ + op.nodes.length).toNat [], 0) else ([], 7))
  else if op.kind = 3 then (spliceS l op.at_.toNat (op.at_ + op.n).toNat [filledS (op.nodes.headD zeroT) op.slot.toNat ((l.take (op.at_ + op.n).toNat).drop op.at_.toNat)], 0)
  else if op.kind = 4 then
    (if (l.getD op.at_.toNat zeroT).kids.length ≤ op.slot ∨ ((kidS (l.getD op.at_.toNat zeroT) op.slot).kids.length : Int) ≠ op.n ∨ eqS (l.getD op.at_.toNat zeroT) (filledS (op.nodes.headD zeroT) op.slot.toNat (kidS (l.getD op.at_.toNat zeroT) op.slot).kids) = false then ([], 7)
     else (spliceS l op.at_.toNat (op.at_ + 1).toNat (kidS (l.getD op.at_.toNat zeroT) op.slot).kids, 0))
  else (if textKind (l.getD op.at_.toNat zeroT).kind = true ∧ ((l.getD op.at_.toNat zeroT).text.toList == op.old.toList) = true then (spliceS l op.at_.toNat (op.at_ + 1).toNat [.mk (l.getD op.at_.toNat zeroT).kind op.text (l.getD op.at_.toNat zeroT).cols (l.getD op.at_.toNat zeroT).kids], 0) else ([], 7))

/-- A list of trees and an error as results. -/
def ChangeP (S : Nat → Prop) (w : World) (r : List Tree × Int) (e : Ending) (w' : World) : Prop :=
  ∃ v, e = .returned (.tuple #[v, .int .i64 r.2]) ∧ SliceR treeE w' (fun q => S q ∨ w.heap.size ≤ q ∧ q < w'.heap.size) r.1 v ∧ Below w.heap.size w w'
theorem template_one {l : List Tree} {slot : Int} (h : templateS l slot = true) : ∃ t, l = [t] ∧ 0 ≤ slot ∧ slot < t.kids.length ∧ (kidS t slot).kids.length = 0 := by
  unfold templateS at h
  simp only [Bool.and_eq_true, decide_eq_true_eq] at h
  obtain ⟨h1, _, h2, h3, h4⟩ := h
  obtain ⟨t, rfl⟩ := List.length_eq_one_iff.1 h1
  exact ⟨t, rfl, h2, h3, h4⟩
theorem bl_dnC {W X : World} {n : Nat} (h : Below W.heap.size W X) : Below W.heap.size W (X.drewN n) := ⟨h.os, h.tape, h.output, h.size, h.block⟩
theorem nsLt {w w0 : World} {S : Nat → Prop} {b : Nat} {l : List Tree} {v : Value} (h : SliceR treeE w (NS S b w) l v) (hS : ∀ q, S q → q < w0.heap.size) (hb : w0.heap.size ≤ w.heap.size) : SliceR treeE w (Lt w.heap.size) l v := h.keep (fun _ _ => rfl) (fun q hq => by
  rcases hq with hq | hq
  · exact Nat.lt_of_lt_of_le (hS _ hq) hb
  · exact hq.2)
theorem tree_lit {w W : World} {S : Nat → Prop} {b g : Nat} {k : Int} {x : ByteArray} {c : Int} {ts : List Tree} {v : Value} {T : TypeId} (hok : NodeOk (.mk k x c ts)) (h : SliceR treeE w (NS S b w) ts v) (hS : ∀ q, S q → q < w.heap.size) (hb : b ≤ w.heap.size)
    (hW : Below (w.alloc (Obj.cells #[.int .i64 k, .string x, .int .i64 c, v] T)).heap.size (w.alloc (Obj.cells #[.int .i64 k, .string x, .int .i64 c, v] T)) W) (hg : g = w.heap.size) : SliceR treeE W (NS S b W) [.mk k x c ts] (.slice (some ⟨g, 0, none⟩) 1 1) := by
  subst hg
  have hs : (w.alloc (Obj.cells #[.int .i64 k, .string x, .int .i64 c, v] T)).heap.size = w.heap.size + 1 := by simp
  have hz := hW.size
  have hkv : SliceR treeE W (NS S b W) ts v := h.keep (fun q hq => by
    have h9 : q.block < w.heap.size := by
      rcases hq with hq | hq
      · exact hS _ hq
      · exact hq.2
    exact (hW.cell (by omega)).trans ((blA w _).cell h9)) (fun q hq => by
    rcases hq with hq | hq
    · exact .inl hq
    · exact .inr ⟨hq.1, by have := hq.2; omega⟩)
  refine ⟨_, _, [.int .i64 k, .string x, .int .i64 c, v], rfl, Nat.le_refl _, by simp [maxLen], fun _ => ⟨w.heap.size, 0, rfl, .inr ⟨hb, by omega⟩, fun j u hu => ?_⟩, ListR.single (E := treeE) (treeR_mk.2 ⟨v, rfl, hok.1, hok.2.1, hok.2.2, hkv⟩)⟩
  rw [Nat.zero_add, hW.cell (by show w.heap.size < _; omega), World.cell?_alloc_new]
  simpa using hu
def OpBox (W : World) (b : Nat) (op : OpD) (vr vn : Value) : Prop :=
  W.cell? ⟨b, 0, none⟩ = some (.int .i64 op.kind) ∧ W.cell? ⟨b, 1, none⟩ = some vr ∧ W.cell? ⟨b, 2, none⟩ = some (.int .i64 op.at_) ∧ W.cell? ⟨b, 3, none⟩ = some (.int .i64 op.n) ∧
  W.cell? ⟨b, 4, none⟩ = some vn ∧ W.cell? ⟨b, 5, none⟩ = some (.int .i64 op.slot) ∧ W.cell? ⟨b, 6, none⟩ = some (.string op.old) ∧ W.cell? ⟨b, 7, none⟩ = some (.string op.text)
theorem OpBox.new (w : World) (op : OpD) (vr vn : Value) (T : TypeId) : OpBox (w.alloc (.cells (opC op vr vn) T)) w.heap.size op vr vn := by
  refine ⟨?_, ?_, ?_, ?_, ?_, ?_, ?_, ?_⟩ <;> rw [World.cell?_alloc_new] <;> rfl
theorem OpBox.below {W W' : World} {B b : Nat} {op : OpD} {vr vn : Value} (h : OpBox W b op vr vn) (hb : Below B W W') (hB : b < B) : OpBox W' b op vr vn := by
  obtain ⟨h0, h1, h2, h3, h4, h5, h6, h7⟩ := h
  have hk : ∀ o, W'.cell? ⟨b, o, none⟩ = W.cell? ⟨b, o, none⟩ := fun o => hb.cell (p := ⟨b, o, none⟩) hB
  exact ⟨(hk _).trans h0, (hk _).trans h1, (hk _).trans h2, (hk _).trans h3, (hk _).trans h4, (hk _).trans h5, (hk _).trans h6, (hk _).trans h7⟩
theorem kidsOld {w W : World} {S : Nat → Prop} {ts : List Tree} {v : Value} (h : SliceR treeE w S ts v) (hS : ∀ q, S q → q < w.heap.size) (hb : Below w.heap.size w W) : SliceR treeE W S ts v := h.keep (fun q hq => hb.cell (hS _ hq)) (fun _ h => h)
theorem kidsLt {w W : World} {S : Nat → Prop} {ts : List Tree} {v : Value} (h : SliceR treeE w S ts v) (hS : ∀ q, S q → q < w.heap.size) (hb : Below w.heap.size w W) : SliceR treeE W (Lt W.heap.size) ts v := h.keep (fun q hq => hb.cell (hS _ hq)) (fun q hq => Nat.lt_of_lt_of_le (hS _ hq) hb.size)

theorem countsS_len2 (ts : List Tree) : ts.length ≤ countsS ts := by
  induction ts with
  | nil => simp
  | cons u us ih => obtain ⟨_, _, _, vs⟩ := u; rw [countsS, countS, List.length_cons]; omega
set_option maxHeartbeats 8000000 in
theorem chg_ins (l : List Tree) (row : List Int) (at_ n slot : Int) (nodes : List Tree) (old text : ByteArray) (A Ar An : Option Addr) (cap lr cr cn : Nat) (w : World) (S : Nat → Prop) (hS : ∀ q, S q → q < w.heap.size) (hl : SliceR treeE w S l (.slice A l.length cap)) (hn : SliceR treeE w S nodes (.slice An nodes.length cn)) (hat : In64 at_) (hcl : countsS l ≤ 1000000) (hcn : countsS nodes ≤ 1000000) :
    Calls Try.prog 34 #[.slice A l.length cap, .agg (opC ⟨1, row, at_, n, nodes, slot, old, text⟩ (.slice Ar lr cr) (.slice An nodes.length cn))] w (ChangeP S w (changeS l ⟨1, row, at_, n, nodes, slot, old, text⟩)) := by
  have hll : l.length ≤ 1000000 := by have := countsS_len2 l; omega
  have hln : nodes.length ≤ 1000000 := by have := countsS_len2 nodes; omega
  have hnd : needS ⟨1, row, at_, n, nodes, slot, old, text⟩ = 0 := by simp [needS]
  have HSS := hid hS
  generalize hW0 : w.alloc (.cells (opC ⟨1, row, at_, n, nodes, slot, old, text⟩ (.slice Ar lr cr) (.slice An nodes.length cn)) 27) = W0
  have hz0 : W0.heap.size = w.heap.size + 1 := by rw [← hW0]; simp
  have KB : Hid (∀ W, Below W0.heap.size W0 W → OpBox W w.heap.size ⟨1, row, at_, n, nodes, slot, old, text⟩ (.slice Ar lr cr) (.slice An nodes.length cn) ∧ Below w.heap.size w W) := fun W hW => by
    have h0 : OpBox W0 w.heap.size ⟨1, row, at_, n, nodes, slot, old, text⟩ (.slice Ar lr cr) (.slice An nodes.length cn) := by rw [← hW0]; exact OpBox.new _ _ _ _ _
    have hB0 : Below w.heap.size w W0 := by rw [← hW0]; exact blA _ _
    exact ⟨h0.below hW (by omega), hB0.trans (hW.mono hB0.size)⟩
  obtain ⟨⟨m0, m1, m2, m3, m4, m5, m6, m7⟩, hB0⟩ := KB.out W0 (Below.refl _ _)
  have HB0 := hid hB0
  have HZ0 := hid hz0
  have HL := hid hl
  have HN := hid hn
  simp only [opC] at *
  clear hS hl hn hB0 hz0
  rcases Int.lt_or_le at_ 0 with r0 | r0
  · have i0 : decide (at_ < 0) = true := by simpa using r0
    have hr : changeS l ⟨1, row, at_, n, nodes, slot, old, text⟩ = ([], 2) := if_pos (by rw [hnd]; simp only; omega)
    rw [hr]
    clear hr hnd
    go_enter Try.func34, Try.ntmps34
    go_wp2_with fail
    refine bodyPost_ret (v := .tuple #[.slice none 0 0, .int .i64 2]) (by simp [results, Try.results34, go_sem]) rfl ?_
    exact ⟨_, rfl, SliceR.nil_ 0 (Nat.zero_le _) none, HB0.out⟩
  have i0 : decide (at_ < 0) = false := by simpa using r0
  rcases Int.lt_or_le (l.length : Int) at_ with r1 | r1
  · have i1 : decide ((l.length : Int) < at_) = true := by simpa using r1
    have hr : changeS l ⟨1, row, at_, n, nodes, slot, old, text⟩ = ([], 2) := if_pos (by rw [hnd]; simp only; omega)
    rw [hr]
    clear hr hnd
    go_enter Try.func34, Try.ntmps34
    go_wp2_with fail
    refine bodyPost_ret (v := .tuple #[.slice none 0 0, .int .i64 2]) (by simp [results, Try.results34, go_sem]) rfl ?_
    exact ⟨_, rfl, SliceR.nil_ 0 (Nat.zero_le _) none, HB0.out⟩
  have i1 : decide ((l.length : Int) < at_) = false := by simpa using r1
  have w1 : IntKind.i64.wrap ((l.length : Int) - at_) = (l.length : Int) - at_ := IntWalk.i64_in _ (by omega)
  have r2 : (0 : Int) ≤ (l.length : Int) - at_ := by omega
  have i2 : decide ((l.length : Int) - at_ < 0) = false := by simpa using r2
  have w2 : IntKind.i64.wrap (at_ + 0) = at_ + 0 := IntWalk.i64_in _ (by omega)
  have w3 : IntKind.i64.wrap at_ = at_ := IntWalk.i64_in _ (by omega)
  have hnr : ¬ (at_ < 0 ∨ (l.length : Int) < at_ ∨ (l.length : Int) - at_ < needS ⟨1, row, at_, n, nodes, slot, old, text⟩) := by rw [hnd]; omega
  obtain ⟨a, ha⟩ : ∃ a : Nat, at_ = a := ⟨at_.toNat, by omega⟩
  obtain ⟨b, hb⟩ : ∃ b : Nat, at_ + 0 = b := ⟨(at_ + 0).toNat, by omega⟩
  have hr : changeS l ⟨1, row, at_, n, nodes, slot, old, text⟩ = (spliceS l a b nodes, 0) := by
    unfold changeS
    rw [if_neg hnr, if_pos rfl]
    simp only [ha, Int.toNat_natCast]
    congr 2
    omega
  rw [hr]
  have HSP := hid (splice_any l nodes at_ at_ a b A An cap cn W0 S (fun q hq => Nat.lt_of_lt_of_le (HSS.out q hq) HB0.out.size) ha (by omega) (by omega) (by omega) hll hln (kidsOld HL.out HSS.out HB0.out) (kidsOld HN.out HSS.out HB0.out))
  clear hnr hr ha hb r0 r1 r2 hnd
  go_enter Try.func34, Try.ntmps34
  go_wp2_with fail
  refine HSP.out.mono ?_
  rintro e w5 ⟨v5, rfl, hr5, hb5⟩
  have HR5 := hid hr5
  have HB5 := hid hb5
  clear hr5 hb5
  go_wp2_with fail
  refine bodyPost_ret (v := .tuple #[v5, .int .i64 0]) (by simp [results, Try.results34, go_sem]) rfl ?_
  exact ⟨v5, rfl, HR5.out.keep (fun _ _ => rfl) (fun q hq => by rcases hq with hq | hq; exact .inl hq; exact .inr ⟨Nat.le_trans HB0.out.size hq.1, hq.2⟩), blCall HB0.out HB5.out⟩
end Go.Proofs.Yteckkamlaibjbaa
/- ref12.change: del. Written by wip/genchg.py. -/
set_option linter.unusedVariables false
set_option linter.unusedSimpArgs false
set_option maxRecDepth 100000
namespace Go.Proofs.Yteckkamlaibjbaa
open Go.RowKit

set_option maxHeartbeats 8000000 in
theorem chg_del (l : List Tree) (row : List Int) (at_ n slot : Int) (nodes : List Tree) (old text : ByteArray) (A Ar An : Option Addr) (cap lr cr cn : Nat) (w : World) (S : Nat → Prop) (hS : ∀ q, S q → q < w.heap.size) (hl : SliceR treeE w S l (.slice A l.length cap)) (hn : SliceR treeE w S nodes (.slice An nodes.length cn)) (hat : In64 at_) (hcl : countsS l ≤ 1000000) (hcn : countsS nodes ≤ 1000000) :
    Calls Try.prog 34 #[.slice A l.length cap, .agg (opC ⟨2, row, at_, n, nodes, slot, old, text⟩ (.slice Ar lr cr) (.slice An nodes.length cn))] w (ChangeP S w (changeS l ⟨2, row, at_, n, nodes, slot, old, text⟩)) := by
  have hll : l.length ≤ 1000000 := by have := countsS_len2 l; omega
  have hln : nodes.length ≤ 1000000 := by have := countsS_len2 nodes; omega
  have hnd : needS ⟨2, row, at_, n, nodes, slot, old, text⟩ = (nodes.length : Int) := by simp [needS]
  have HSS := hid hS
  generalize hW0 : w.alloc (.cells (opC ⟨2, row, at_, n, nodes, slot, old, text⟩ (.slice Ar lr cr) (.slice An nodes.length cn)) 27) = W0
  have hz0 : W0.heap.size = w.heap.size + 1 := by rw [← hW0]; simp
  have KB : Hid (∀ W, Below W0.heap.size W0 W → OpBox W w.heap.size ⟨2, row, at_, n, nodes, slot, old, text⟩ (.slice Ar lr cr) (.slice An nodes.length cn) ∧ Below w.heap.size w W) := fun W hW => by
    have h0 : OpBox W0 w.heap.size ⟨2, row, at_, n, nodes, slot, old, text⟩ (.slice Ar lr cr) (.slice An nodes.length cn) := by rw [← hW0]; exact OpBox.new _ _ _ _ _
    have hB0 : Below w.heap.size w W0 := by rw [← hW0]; exact blA _ _
    exact ⟨h0.below hW (by omega), hB0.trans (hW.mono hB0.size)⟩
  obtain ⟨⟨m0, m1, m2, m3, m4, m5, m6, m7⟩, hB0⟩ := KB.out W0 (Below.refl _ _)
  have HB0 := hid hB0
  have HZ0 := hid hz0
  have HL := hid hl
  have HN := hid hn
  simp only [opC] at *
  clear hS hl hn hB0 hz0
  rcases Int.lt_or_le at_ 0 with r0 | r0
  · have i0 : decide (at_ < 0) = true := by simpa using r0
    have hr : changeS l ⟨2, row, at_, n, nodes, slot, old, text⟩ = ([], 2) := if_pos (by rw [hnd]; simp only; omega)
    rw [hr]
    clear hr hnd
    go_enter Try.func34, Try.ntmps34
    go_wp2_with fail
    refine bodyPost_ret (v := .tuple #[.slice none 0 0, .int .i64 2]) (by simp [results, Try.results34, go_sem]) rfl ?_
    exact ⟨_, rfl, SliceR.nil_ 0 (Nat.zero_le _) none, HB0.out⟩
  have i0 : decide (at_ < 0) = false := by simpa using r0
  rcases Int.lt_or_le (l.length : Int) at_ with r1 | r1
  · have i1 : decide ((l.length : Int) < at_) = true := by simpa using r1
    have hr : changeS l ⟨2, row, at_, n, nodes, slot, old, text⟩ = ([], 2) := if_pos (by rw [hnd]; simp only; omega)
    rw [hr]
    clear hr hnd
    go_enter Try.func34, Try.ntmps34
    go_wp2_with fail
    refine bodyPost_ret (v := .tuple #[.slice none 0 0, .int .i64 2]) (by simp [results, Try.results34, go_sem]) rfl ?_
    exact ⟨_, rfl, SliceR.nil_ 0 (Nat.zero_le _) none, HB0.out⟩
  have i1 : decide ((l.length : Int) < at_) = false := by simpa using r1
  have w1 : IntKind.i64.wrap ((l.length : Int) - at_) = (l.length : Int) - at_ := IntWalk.i64_in _ (by omega)
  rcases Int.lt_or_le ((l.length : Int) - at_) ((nodes.length : Int)) with r2 | r2
  · have i2 : decide ((l.length : Int) - at_ < (nodes.length : Int)) = true := by simpa using r2
    have hr : changeS l ⟨2, row, at_, n, nodes, slot, old, text⟩ = ([], 2) := if_pos (by rw [hnd]; simp only; omega)
    rw [hr]
    clear hr hnd
    go_enter Try.func34, Try.ntmps34
    go_wp2_with fail
    refine bodyPost_ret (v := .tuple #[.slice none 0 0, .int .i64 2]) (by simp [results, Try.results34, go_sem]) rfl ?_
    exact ⟨_, rfl, SliceR.nil_ 0 (Nat.zero_le _) none, HB0.out⟩
  have i2 : decide ((l.length : Int) - at_ < (nodes.length : Int)) = false := by simpa using r2
  have w2 : IntKind.i64.wrap (at_ + (nodes.length : Int)) = at_ + (nodes.length : Int) := IntWalk.i64_in _ (by omega)
  have w3 : IntKind.i64.wrap at_ = at_ := IntWalk.i64_in _ (by omega)
  have hnr : ¬ (at_ < 0 ∨ (l.length : Int) < at_ ∨ (l.length : Int) - at_ < needS ⟨2, row, at_, n, nodes, slot, old, text⟩) := by rw [hnd]; omega
  obtain ⟨a, ha⟩ : ∃ a : Nat, at_ = a := ⟨at_.toNat, by omega⟩
  obtain ⟨b, hb⟩ : ∃ b : Nat, at_ + (nodes.length : Int) = b := ⟨(at_ + (nodes.length : Int)).toNat, by omega⟩
  have hn1 : l.length ≤ cap := by obtain ⟨_, _, _, hq, h1, _⟩ := HL.out; cases hq; exact h1
  obtain ⟨A1, hsl, hcut⟩ := cut_lh treeE Try.underlying22 size_node A l.length cap at_ (at_ + (nodes.length : Int)) a b ha hb (by omega) (by omega) hn1
  have hr : changeS l ⟨2, row, at_, n, nodes, slot, old, text⟩ = (if sameS ((l.take b).drop a) nodes = true then (spliceS l a b [], 0) else ([], 7)) := by
    unfold changeS
    rw [if_neg hnr, if_neg (by simp), if_pos rfl]
    simp only [hb]
    simp only [ha, Int.toNat_natCast]
  rw [hr]
  have hlen : ((l.take b).drop a).length = b - a := by simp; omega
  have hcc := hcut _ _ _ HL.out
  rw [← hlen] at hcc hsl
  have CE : Hid (∀ W, Below w.heap.size w W → Calls Try.prog 47 #[.slice A1 ((l.take b).drop a).length (cap - a), .slice An nodes.length cn] W fun e w' => e = .returned (.bool (sameS ((l.take b).drop a) nodes)) ∧ Below W.heap.size W w') := fun W hW => same_any _ _ W _ _ (kidsLt hcc HSS.out hW) (kidsLt HN.out HSS.out hW)
  have CS : Hid (∀ W, Below w.heap.size w W → Calls Try.prog 54 #[.slice A l.length cap, .int .i64 at_, .int .i64 (at_ + (nodes.length : Int)), .slice none 0 0] W (ListP S W (spliceS l a b []))) := fun W hW => splice_any l [] at_ (at_ + (nodes.length : Int)) a b A none cap 0 W S (fun q hq => Nat.lt_of_lt_of_le (HSS.out q hq) hW.size) ha hb (by omega) (by omega) hll (Nat.zero_le _) (kidsOld HL.out HSS.out hW) (SliceR.nil_ 0 (Nat.zero_le _) none)
  generalize sameS ((l.take b).drop a) nodes = bS at *
  generalize spliceS l a b [] = L at *
  generalize ((l.take b).drop a).length = n2 at *
  clear hnr hr hb r0 r1 r2 hnd hcut hcc hlen ha
  cases bS
  all_goals
    go_enter Try.func34, Try.ntmps34
    go_wp2_with fail
    go_region_held3 (fun w' => w'.cell? ⟨w.heap.size, 2, none⟩ = some (.int .i64 at_) ∧ w'.cell? ⟨w.heap.size, 4, none⟩ = some (.slice An nodes.length cn)) (go_keep) (first
      | (go_at_call 47; refine (CE.out _ (blDrew HB0.out)).mono ?_; rintro e w5 ⟨rfl, hb5⟩; have HB5 := hid (ofDrew hb5); clear hb5; obtain ⟨⟨k0, k1, k2, k3, k4, k5, k6, k7⟩, hbw⟩ := KB.out w5 HB5.out; have HK5 := hid hbw; clear hbw))
    go_wp2_with fail
  · refine bodyPost_ret (v := .tuple #[.slice none 0 0, .int .i64 7]) (by simp [results, Try.results34, go_sem]) rfl ?_
    exact ⟨_, rfl, SliceR.nil_ 0 (Nat.zero_le _) none, HK5.out⟩
  · refine (CS.out _ HK5.out).mono ?_
    rintro e w6 ⟨v6, rfl, hr6, hb6⟩
    have HR6 := hid hr6
    have HB6 := hid hb6
    clear hr6 hb6
    go_wp2_with fail
    refine bodyPost_ret (v := .tuple #[v6, .int .i64 0]) (by simp [results, Try.results34, go_sem]) rfl ?_
    exact ⟨v6, rfl, HR6.out.keep (fun _ _ => rfl) (fun q hq => by rcases hq with hq | hq; exact .inl hq; exact .inr ⟨Nat.le_trans HK5.out.size hq.1, hq.2⟩), blCall HK5.out HB6.out⟩
end Go.Proofs.Yteckkamlaibjbaa
/- ref12.change: wrap. Written by wip/genchg.py. -/
set_option linter.unusedVariables false
set_option linter.unusedSimpArgs false
set_option maxRecDepth 100000
namespace Go.Proofs.Yteckkamlaibjbaa
open Go.RowKit

set_option maxHeartbeats 8000000 in
theorem chg_wrap (l : List Tree) (row : List Int) (at_ n slot : Int) (nodes : List Tree) (old text : ByteArray) (A Ar An : Option Addr) (cap lr cr cn : Nat) (w : World) (S : Nat → Prop) (hS : ∀ q, S q → q < w.heap.size) (hl : SliceR treeE w S l (.slice A l.length cap)) (hn : SliceR treeE w S nodes (.slice An nodes.length cn)) (hat : In64 at_) (hcl : countsS l ≤ 1000000) (hcn : countsS nodes ≤ 1000000) (hn0 : 0 ≤ n) (hn64 : In64 n) (htm : templateS nodes slot = true) :
    Calls Try.prog 34 #[.slice A l.length cap, .agg (opC ⟨3, row, at_, n, nodes, slot, old, text⟩ (.slice Ar lr cr) (.slice An nodes.length cn))] w (ChangeP S w (changeS l ⟨3, row, at_, n, nodes, slot, old, text⟩)) := by
  have hll : l.length ≤ 1000000 := by have := countsS_len2 l; omega
  have hln : nodes.length ≤ 1000000 := by have := countsS_len2 nodes; omega
  have hnd : needS ⟨3, row, at_, n, nodes, slot, old, text⟩ = n := by simp [needS]
  have HSS := hid hS
  generalize hW0 : w.alloc (.cells (opC ⟨3, row, at_, n, nodes, slot, old, text⟩ (.slice Ar lr cr) (.slice An nodes.length cn)) 27) = W0
  have hz0 : W0.heap.size = w.heap.size + 1 := by rw [← hW0]; simp
  have KB : Hid (∀ W, Below W0.heap.size W0 W → OpBox W w.heap.size ⟨3, row, at_, n, nodes, slot, old, text⟩ (.slice Ar lr cr) (.slice An nodes.length cn) ∧ Below w.heap.size w W) := fun W hW => by
    have h0 : OpBox W0 w.heap.size ⟨3, row, at_, n, nodes, slot, old, text⟩ (.slice Ar lr cr) (.slice An nodes.length cn) := by rw [← hW0]; exact OpBox.new _ _ _ _ _
    have hB0 : Below w.heap.size w W0 := by rw [← hW0]; exact blA _ _
    exact ⟨h0.below hW (by omega), hB0.trans (hW.mono hB0.size)⟩
  obtain ⟨⟨m0, m1, m2, m3, m4, m5, m6, m7⟩, hB0⟩ := KB.out W0 (Below.refl _ _)
  have HB0 := hid hB0
  have HZ0 := hid hz0
  have HL := hid hl
  have HN := hid hn
  simp only [opC] at *
  clear hS hl hn hB0 hz0
  rcases Int.lt_or_le at_ 0 with r0 | r0
  · have i0 : decide (at_ < 0) = true := by simpa using r0
    have hr : changeS l ⟨3, row, at_, n, nodes, slot, old, text⟩ = ([], 2) := if_pos (by rw [hnd]; simp only; omega)
    rw [hr]
    clear hr hnd
    go_enter Try.func34, Try.ntmps34
    go_wp2_with fail
    refine bodyPost_ret (v := .tuple #[.slice none 0 0, .int .i64 2]) (by simp [results, Try.results34, go_sem]) rfl ?_
    exact ⟨_, rfl, SliceR.nil_ 0 (Nat.zero_le _) none, HB0.out⟩
  have i0 : decide (at_ < 0) = false := by simpa using r0
  rcases Int.lt_or_le (l.length : Int) at_ with r1 | r1
  · have i1 : decide ((l.length : Int) < at_) = true := by simpa using r1
    have hr : changeS l ⟨3, row, at_, n, nodes, slot, old, text⟩ = ([], 2) := if_pos (by rw [hnd]; simp only; omega)
    rw [hr]
    clear hr hnd
    go_enter Try.func34, Try.ntmps34
    go_wp2_with fail
    refine bodyPost_ret (v := .tuple #[.slice none 0 0, .int .i64 2]) (by simp [results, Try.results34, go_sem]) rfl ?_
    exact ⟨_, rfl, SliceR.nil_ 0 (Nat.zero_le _) none, HB0.out⟩
  have i1 : decide ((l.length : Int) < at_) = false := by simpa using r1
  have w1 : IntKind.i64.wrap ((l.length : Int) - at_) = (l.length : Int) - at_ := IntWalk.i64_in _ (by omega)
  rcases Int.lt_or_le ((l.length : Int) - at_) (n) with r2 | r2
  · have i2 : decide ((l.length : Int) - at_ < n) = true := by simpa using r2
    have hr : changeS l ⟨3, row, at_, n, nodes, slot, old, text⟩ = ([], 2) := if_pos (by rw [hnd]; simp only; omega)
    rw [hr]
    clear hr hnd
    go_enter Try.func34, Try.ntmps34
    go_wp2_with fail
    refine bodyPost_ret (v := .tuple #[.slice none 0 0, .int .i64 2]) (by simp [results, Try.results34, go_sem]) rfl ?_
    exact ⟨_, rfl, SliceR.nil_ 0 (Nat.zero_le _) none, HB0.out⟩
  have i2 : decide ((l.length : Int) - at_ < n) = false := by simpa using r2
  have w2 : IntKind.i64.wrap (at_ + n) = at_ + n := IntWalk.i64_in _ (by omega)
  have w3 : IntKind.i64.wrap at_ = at_ := IntWalk.i64_in _ (by omega)
  have hnr : ¬ (at_ < 0 ∨ (l.length : Int) < at_ ∨ (l.length : Int) - at_ < needS ⟨3, row, at_, n, nodes, slot, old, text⟩) := by rw [hnd]; omega
  obtain ⟨a, ha⟩ : ∃ a : Nat, at_ = a := ⟨at_.toNat, by omega⟩
  obtain ⟨b, hb⟩ : ∃ b : Nat, at_ + n = b := ⟨(at_ + n).toNat, by omega⟩
  have hn1 : l.length ≤ cap := by obtain ⟨_, _, _, hq, h1, _⟩ := HL.out; cases hq; exact h1
  obtain ⟨A1, hsl, hcut⟩ := cut_lh treeE Try.underlying22 size_node A l.length cap at_ (at_ + n) a b ha hb (by omega) (by omega) hn1
  obtain ⟨t0, hnd1, hs0, hs1, hke⟩ := template_one htm
  subst hnd1
  have hn0' := HN.out
  obtain ⟨_, _, rs0, hq, _, _, hrd0, hls0⟩ := hn0'
  cases hq
  obtain ⟨g0, o0, A0, c0, rs1, rfl, hg0, t00, t01, t02, t03, b1, b2, b3, b4, b5, hrd1, hls1⟩ := trees_at hrd0 hls0 (k := 0) (by simp)
  simp only [Nat.zero_mul, Nat.add_zero, List.getElem_cons_zero, List.length_cons, List.length_nil, Nat.zero_add] at t00 t01 t02 t03 b1 b2 b3 b4 b5 hrd1 hls1 m0 m1 m2 m3 m4 m5 m6 m7 hW0
  have hok0 : NodeOk t0 := ⟨b1, b2, b3⟩
  have ht0v : SliceR treeE w S t0.kids (.slice A0 t0.kids.length c0) := ⟨_, _, rs1, rfl, b4, b5, hrd1, hls1⟩
  have hgl0 : g0 < w.heap.size := HSS.out _ hg0
  have KN : Hid (∀ W, Below w.heap.size w W → W.cell? ⟨g0, o0, none⟩ = some (.int .i64 t0.kind) ∧ W.cell? ⟨g0, o0 + 1, none⟩ = some (.string t0.text) ∧ W.cell? ⟨g0, o0 + 2, none⟩ = some (.int .i64 t0.cols) ∧ W.cell? ⟨g0, o0 + 3, none⟩ = some (.slice A0 t0.kids.length c0)) := fun W hW =>
    ⟨(hW.cell (p := ⟨g0, _, none⟩) hgl0).trans t00, (hW.cell (p := ⟨g0, _, none⟩) hgl0).trans t01, (hW.cell (p := ⟨g0, _, none⟩) hgl0).trans t02, (hW.cell (p := ⟨g0, _, none⟩) hgl0).trans t03⟩
  obtain ⟨s', hs'⟩ : ∃ s' : Nat, slot = s' := ⟨slot.toNat, by omega⟩
  have hs2 : s' < t0.kids.length := by omega
  have htl : t0.kids.length ≤ 1000000 := by
    have h1 := kids_le_count t0
    have h2 : countsS [t0] = countS t0 + 0 := rfl
    omega
  have hr : changeS l ⟨3, row, at_, n, [t0], slot, old, text⟩ = (spliceS l a b [filledS t0 s' ((l.take b).drop a)], 0) := by
    unfold changeS
    rw [if_neg hnr, if_neg (by simp), if_neg (by simp), if_pos rfl]
    simp only [hb]
    simp only [ha, hs', Int.toNat_natCast, List.headD_cons]
  rw [hr]
  have hlen : ((l.take b).drop a).length = b - a := by simp; omega
  have hcc := hcut _ _ _ HL.out
  rw [← hlen] at hcc hsl
  have CF : Hid (∀ W, Below w.heap.size w W → Calls Try.prog 55 #[.agg #[.int .i64 t0.kind, .string t0.text, .int .i64 t0.cols, .slice A0 t0.kids.length c0], .int .i64 slot, .slice A1 ((l.take b).drop a).length (cap - a)] W (TreeP S W (filledS t0 s' ((l.take b).drop a)))) := fun W hW => by
    rw [hs']
    exact filled_any t0 s' ((l.take b).drop a) A0 A1 c0 (cap - a) W S (fun q hq => Nat.lt_of_lt_of_le (HSS.out q hq) hW.size) hs2 htl (by omega) (kidsOld ht0v HSS.out hW) (kidsOld hcc HSS.out hW)
  have hokR : NodeOk (filledS t0 s' ((l.take b).drop a)) := hok0
  have CS : Hid (∀ W b0 v, Below w.heap.size w W → w.heap.size ≤ b0 → SliceR treeE W (NS S b0 W) [filledS t0 s' ((l.take b).drop a)] v → ∀ B', v = .slice B' 1 1 → Calls Try.prog 54 #[.slice A l.length cap, .int .i64 at_, .int .i64 (at_ + n), v] W (ListP (NS S b0 W) W (spliceS l a b [filledS t0 s' ((l.take b).drop a)]))) := by
    intro W b0 v hW hb0 hr B' hv
    subst hv
    exact splice_any l [filledS t0 s' ((l.take b).drop a)] at_ (at_ + n) a b A B' cap 1 W (NS S b0 W) (fun q hq => by
      have hz := hW.size
      rcases hq with hq | hq
      · have := HSS.out q hq; omega
      · exact hq.2) ha hb (by omega) (by omega) hll (by simp) ((kidsOld HL.out HSS.out hW).keep (fun _ _ => rfl) (fun q hq => .inl hq)) hr
  generalize filledS t0 s' ((l.take b).drop a) = R at *
  generalize spliceS l a b [R] = L at *
  generalize ((l.take b).drop a).length = n2 at *
  obtain ⟨q0, q1, q2, q3⟩ := KN.out W0 HB0.out
  obtain ⟨tk, tx, tc, ts⟩ := t0
  obtain ⟨rk, rx, rc, rs⟩ := R
  simp only [Tree.kind, Tree.text, Tree.cols, Tree.kids] at *
  have HOK := hid hokR
  clear hnr hr hb r0 r1 r2 hnd hcut hcc hlen ha htm hs0 hs1 hke hs' hs2 htl hrd0 hls0 hrd1 hls1 b1 b2 b3 b4 b5 hok0 ht0v hokR t00 t01 t02 t03
  go_enter Try.func34, Try.ntmps34
  go_wp2_with fail
  go_region_held3 (fun w' => w'.cell? ⟨w.heap.size, 2, none⟩ = some (.int .i64 at_) ∧ w'.cell? ⟨w.heap.size, 4, none⟩ = some (.slice (some ⟨g0, o0, none⟩) 1 cn) ∧ w'.cell? ⟨w.heap.size, 5, none⟩ = some (.int .i64 slot) ∧ w'.cell? ⟨g0, o0, none⟩ = some (.int .i64 tk) ∧ w'.cell? ⟨g0, o0 + 1, none⟩ = some (.string tx) ∧ w'.cell? ⟨g0, o0 + 2, none⟩ = some (.int .i64 tc) ∧ w'.cell? ⟨g0, o0 + 3, none⟩ = some (.slice A0 ts.length c0)) (go_keep) (first
    | (go_at_call 55; refine (CF.out _ (blDrew HB0.out)).mono ?_; intro e w5 h5; obtain ⟨v5, rfl, hr5, hb5⟩ : ∃ v, e = .returned (.agg #[.int .i64 rk, .string rx, .int .i64 rc, v]) ∧ SliceR treeE w5 (NS S W0.heap.size w5) rs v ∧ Below W0.heap.size W0 w5 := by { obtain ⟨v, e1, e2, e3⟩ := TreeP.ns h5 (b := W0.heap.size) (Nat.le_refl _); exact ⟨v, e1, e2, ofDrew e3⟩ }; obtain ⟨A5, c5, rfl⟩ := hr5.form; have HR5 := hid hr5; have HB5 := hid hb5; clear hr5 hb5; obtain ⟨⟨k0, k1, k2, k3, k4, k5, k6, k7⟩, hbw⟩ := KB.out w5 HB5.out; have HK5 := hid hbw; obtain ⟨q0, q1, q2, q3⟩ := KN.out w5 hbw; clear hbw)
    | (go_at_call 54; refine (CS.out _ W0.heap.size _ (blAlloc HK5.out _) HB0.out.size (tree_lit HOK.out HR5.out (fun q hq => Nat.lt_of_lt_of_le (HSS.out q hq) HK5.out.size) HB5.out.size (Below.refl _ _) rfl) _ rfl).mono ?_; rintro e w6 ⟨v6, rfl, hr6, hb6⟩; have HR6 := hid hr6; have HZ5 := hid (blCall (blAlloc HB5.out _) hb6); have HW6 := hid hb6.size; have HK6 := hid (blCall (blAlloc HK5.out _) hb6); clear hr6 hb6; obtain ⟨⟨k0, k1, k2, k3, k4, k5, k6, k7⟩, hbw⟩ := KB.out w6 HZ5.out; obtain ⟨q0, q1, q2, q3⟩ := KN.out w6 hbw; clear hbw))
  all_goals
    go_wp2_with fail
    refine bodyPost_ret (v := .tuple #[v6, .int .i64 0]) (by simp [results, Try.results34, go_sem]) rfl ?_
    have hz0 := HB0.out.size
    have hz5 := HB5.out.size
    exact ⟨v6, rfl, HR6.out.keep (fun _ _ => rfl) (fun q hq => by
      rcases hq with (hq | hq) | hq
      · exact .inl hq
      · exact .inr ⟨by omega, Nat.lt_of_lt_of_le hq.2 HW6.out⟩
      · exact .inr ⟨by have := hq.1; simp at this; omega, hq.2⟩), HK6.out⟩
end Go.Proofs.Yteckkamlaibjbaa
