/- Texts put together. -/
import Derived.Test.YtbjcioknfjofkaaGreatQ6a6e0ab96f
import Derived.Test.YtbjcioknfjofkaaGreatQe827aa6e22
import Derived.Test.YtbjcioknfjofkaaGreatQbf61badddb
set_option linter.unusedVariables false
set_option linter.unusedSimpArgs false
set_option maxRecDepth 100000
namespace Go.Proofs.YtbjcioknfjofkaaGreat
open Go.RowKit
def NodeP (x:Tree) (w:World) (e:Ending) (w':World):Prop:=∃ B b,e = .returned (.agg #[.int .i64 x.kind,.string x.text,.int .i64 x.cols,.slice B x.kids.length b])∧SliceR treeE w' (Lt w'.heap.size) x.kids (.slice B x.kids.length b)∧Below w.heap.size w w'
theorem head_ok {w:World} {S:Nat→Prop} {items:List Tree} {v:Value} (h:SliceR treeE w S items v):NodeOk (items.headD zeroT):=by
 cases items with
 | nil=>exact ⟨by simp [zeroT,Tree.kind,In64],by simp [zeroT,Tree.cols,In64],Nat.zero_le _⟩
 | cons x l=>exact sl_ok h (k:=0) (by simp)
set_option maxHeartbeats 2000000 in
theorem first_any (items : List Tree) (An : Option Addr) (cn : Nat) (w : World) (hi : SliceR treeE w (Lt w.heap.size) items (.slice An items.length cn)) :
    Calls Tryz.prog 24 #[.slice An items.length cn] w (NodeP (items.headD zeroT) w) := by
  have HI := hid hi
  have HO : Hid (HasObj (w.alloc (.cells #[.int .i64 0, .string ⟨#[]⟩, .int .i64 0, .slice none 0 0] 24)) w.heap.size (.cells #[.int .i64 0, .string ⟨#[]⟩, .int .i64 0, .slice none 0 0] 24)) := hid (HasObj.at0 _ _)
  cases items with
  | nil =>
    clear hi
    simp only [List.length_nil]
    go_enter Tryz.func24, Tryz.ntmps24
    go_wp2_with (first
      | (refine wpList_store_row rfl 24 (.tmp 2) (.tmp 6) rfl w.heap.size _ rfl rfl 24 _ HO.out (by kernel_rfl) (by simp) (by simp [Value.oneCell']) ?_)
      | fail)
    refine bodyPost_ret (v := .agg #[.int .i64 0, .string ⟨#[]⟩, .int .i64 0, .slice none 0 0]) (results_cell_row Tryz.results24 _ _ w.heap.size 24 _ (0, 0) _ rfl (setRow_heap _ _ _ _ _ _ HO.out) Tryz.underlying24 rfl (by kernel_rfl)) rfl ?_
    exact ⟨none, 0, rfl, SliceR.nil_ 0 (Nat.zero_le _) none, below_setRowB (blA _ _) (Nat.le_refl _) _⟩
  | cons x l =>
    obtain ⟨_, _, rs, hq, hcap, hmax, hrd, hls⟩ := hi
    cases hq
    obtain ⟨g, o, B, bx, rs2, rfl, hg, x0, x1, x2, x3, _, _, _, hx5, hx6, hrx, hlx⟩ := trees_at (hrd.keep (fun _ _ => rfl) (fun _ h => h)) hls (k := 0) (by simp)
    simp only [Nat.zero_mul, Nat.add_zero, List.getElem_cons_zero] at x0 x1 x2 x3 hx5 hlx
    have HK : Hid (SliceR treeE w (Lt w.heap.size) x.kids (.slice B x.kids.length bx)) := ⟨_, _, rs2, rfl, hx5, hx6, hrx, hlx⟩
    have hgl : g < w.heap.size := hg
    have y0 := ((blA w (.cells #[.int .i64 0, .string ⟨#[]⟩, .int .i64 0, .slice none 0 0] 24)).cell (p := ⟨g, _, none⟩) hgl).trans x0
    have y1 := ((blA w (.cells #[.int .i64 0, .string ⟨#[]⟩, .int .i64 0, .slice none 0 0] 24)).cell (p := ⟨g, _, none⟩) hgl).trans x1
    have y2 := ((blA w (.cells #[.int .i64 0, .string ⟨#[]⟩, .int .i64 0, .slice none 0 0] 24)).cell (p := ⟨g, _, none⟩) hgl).trans x2
    have y3 := ((blA w (.cells #[.int .i64 0, .string ⟨#[]⟩, .int .i64 0, .slice none 0 0] 24)).cell (p := ⟨g, _, none⟩) hgl).trans x3
    clear x0 x1 x2 x3
    have i0 : (((x :: l).length : Int) == 0) = false := by rw [beq_eq_false_iff_ne]; simp only [List.length_cons]; omega
    have i1 : (0 : Int) < ((x :: l).length : Int) := by simp
    generalize (x :: l).length = n at *
    clear hrd hls hrx hlx hx5 hx6 hcap hmax
    go_enter Tryz.func24, Tryz.ntmps24
    go_wp2_with (first
      | (refine wpList_store_row rfl 24 (.tmp 2) (.tmp 9) rfl w.heap.size _ rfl rfl 24 _ HO.out (by kernel_rfl) (by simp) (by simp [Value.oneCell']) ?_)
      | fail)
    refine bodyPost_ret (v := .agg #[.int .i64 x.kind, .string x.text, .int .i64 x.cols, .slice B x.kids.length bx]) (results_cell_row Tryz.results24 _ _ w.heap.size 24 _ (0, 0) _ rfl (setRow_heap _ _ _ _ _ _ HO.out) Tryz.underlying24 rfl (by kernel_rfl)) rfl ?_
    exact ⟨B, bx, rfl, HK.out.below (below_setRowB (blA _ _) (Nat.le_refl _) _) (below_setRowB (blA _ _) (Nat.le_refl _) _).size, below_setRowB (blA _ _) (Nat.le_refl _) _⟩
end Go.Proofs.YtbjcioknfjofkaaGreat
