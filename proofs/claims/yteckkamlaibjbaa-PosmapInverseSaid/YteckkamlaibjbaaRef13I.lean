/- ref13.inside: every test decided ahead of the walk. Written by wip/gen13i.py. -/
import Derived.Test.YteckkamlaibjbaaRef13E
import Derived.Test.YteckkamlaibjbaaCuts
import Derived.Test.YteckkamlaibjbaaRef13O
import Derived.Deep.RegionHeld3
set_option linter.unusedVariables false
set_option linter.unusedSimpArgs false
namespace Go.Proofs.Yteckkamlaibjbaa
open Go.RowKit

def insideS (op : OpD) (i s : Int) (r : List Int) : List Int :=
  if i < op.at_ then [i] ++ [s] ++ r
  else if op.kind = 1 then [i + op.nodes.length] ++ [s] ++ r
  else if op.kind = 2 then (if i < op.at_ + op.nodes.length then [op.at_] else [i - op.nodes.length] ++ [s] ++ r)
  else if op.kind = 3 then (if i < op.at_ + op.n then [op.at_, op.slot, i - op.at_] ++ [s] ++ r else [i - op.n + 1] ++ [s] ++ r)
  else if op.kind = 4 ∧ i = op.at_ then (if s < op.slot then [op.at_] else if op.slot < s then [op.at_ + op.n] else (op.at_ + r.headD 0) :: r.tail)
  else if op.kind = 4 then [i - 1 + op.n] ++ [s] ++ r
  else [i] ++ [s] ++ r

set_option maxHeartbeats 8000000 in
set_option maxRecDepth 100000 in
theorem inside_any (op : OpD) (i s : Int) (r : List Int) (Ar An Ap : Option Addr) (lr cr cn cp : Nat) (w : World) (hop : op.Ok) (hi : Bd 1152921504606846976 i) (hs : Bd 1152921504606846976 s) (hrb : ∀ x ∈ r, Bd 1152921504606846976 x) (hrl : r.length ≤ 100000) (hr0 : 0 < r.length)
    (hr : IntsR w (Lt w.heap.size) r (.slice Ap r.length cp)) :
    Calls Try.prog 45 #[.agg (opC op (.slice Ar lr cr) (.slice An op.nodes.length cn)), .int .i64 i, .int .i64 s, .slice Ap r.length cp] w (IntsPost w (insideS op i s r)) := by
  have HR : Hid (∀ W, Below w.heap.size w W → IntsR W (Lt w.heap.size) r (.slice Ap r.length cp)) := fun W hW => hr.below hW (Nat.le_refl _)
  have HRB := hid hrb
  have HOP := hid hop
  have HR0 := hid hr
  have HS : Hid (In64 s) := bd_in64 hs
  obtain ⟨hat, hn, hslot, hnl, hrl'⟩ := hop
  unfold Bd at hat hn hslot hi hs
  obtain ⟨hat1, hat2⟩ := hat
  obtain ⟨hn1, hn2⟩ := hn
  obtain ⟨hs1, hs2⟩ := hslot
  obtain ⟨hi1, hi2⟩ := hi
  obtain ⟨hss1, hss2⟩ := hs
  obtain ⟨kind, row, at_, n, nodes, slot, old, text⟩ := op
  simp only [opC] at *
  clear hrb hr hrl'
  rcases Int.lt_trichotomy i at_ with hl0 | he0 | hg0
  · have hq0 : (i == at_) = false := by simp; omega
    have HF : Hid (insideS ⟨kind, row, at_, n, nodes, slot, old, text⟩ i s r = [i] ++ [s] ++ r) := by
      show _ = _
      unfold insideS
      repeat' split
      all_goals first | rfl | (exfalso; simp_all; done) | (exfalso; simp_all; omega) | (simp; done) | (simp; omega)
    have H0 := hid (app_pre w (w.alloc (Obj.cells #[.int .i64 kind, .slice Ar lr cr, .int .i64 at_, .int .i64 n, .slice An nodes.length cn, .int .i64 slot, .string old, .string text] 27)) (below_alloc _ _) [i] (by intro x hx; simp only [List.mem_cons, List.not_mem_nil, or_false] at hx; rcases hx with rfl <;> (apply in64_of <;> omega)) (by simp) s HS.out 1 (w.heap.size + 1) (w.heap.size + 1 + 1) rfl (by simp) (by simp) #[.int .i64 (i)] rfl)
    go_enter Try.func45, Try.ntmps45
    go_wp2_with (first | (at_builtin; refine app_ints rfl (.tmp 155) (.tmp 157) rfl w.heap.size _ [i] [s] rfl H0.out.1 _ _ _ _ rfl H0.out.2.1 (by simp) H0.out.2.2.size ?_; intro v1 w1 hown1 hb1 _; have hb1' := H0.out.2.2.trans hb1) | (at_builtin; refine app_ints rfl (.tmp 158) (.tmp 159) rfl w.heap.size v1 ([i] ++ [s]) r rfl hown1 _ _ _ _ rfl (HR.out _ hb1') (by simp; omega) hb1'.size ?_; intro v2 w2 hown2 hb2 _))
    go_ret
    rw [HF.out]
    exact ⟨_, rfl, hown2.ints (fun _ _ h => h), hb1'.trans hb2⟩
  · have hq0 : (i == at_) = true := by simp; omega
    have hu0 : i ≤ at_ := by omega
    have hv0 : at_ ≤ i := by omega
    clear he0
    by_cases hc1 : kind = 1
    · subst hc1
      have HF : Hid (insideS ⟨1, row, at_, n, nodes, slot, old, text⟩ i s r = [i + (nodes.length : Int)] ++ [s] ++ r) := by
        show _ = _
        unfold insideS
        repeat' split
        all_goals first | rfl | (exfalso; simp_all; done) | (exfalso; simp_all; omega) | (simp; done) | (simp; omega)
      have H0 := hid (app_pre w ((w.alloc (Obj.cells #[.int .i64 1, .slice Ar lr cr, .int .i64 at_, .int .i64 n, .slice An nodes.length cn, .int .i64 slot, .string old, .string text] 27)).alloc (.cells #[.int .i64 i] 3)) ((below_alloc _ _).trans ((below_alloc _ _).mono (by simp))) [i + (nodes.length : Int)] (by intro x hx; simp only [List.mem_cons, List.not_mem_nil, or_false] at hx; rcases hx with rfl <;> (apply in64_of <;> omega)) (by simp) s HS.out 1 (w.heap.size + 1 + 1) (w.heap.size + 1 + 1 + 1) rfl (by simp) (by simp) #[.int .i64 (i + (nodes.length : Int))] rfl)
      go_enter Try.func45, Try.ntmps45
      go_wp2_with (first | (at_builtin; refine app_ints rfl (.tmp 155) (.tmp 157) rfl w.heap.size _ [i + (nodes.length : Int)] [s] rfl H0.out.1 _ _ _ _ rfl H0.out.2.1 (by simp) H0.out.2.2.size ?_; intro v1 w1 hown1 hb1 _; have hb1' := H0.out.2.2.trans hb1) | (at_builtin; refine app_ints rfl (.tmp 158) (.tmp 159) rfl w.heap.size v1 ([i + (nodes.length : Int)] ++ [s]) r rfl hown1 _ _ _ _ rfl (HR.out _ hb1') (by simp; omega) hb1'.size ?_; intro v2 w2 hown2 hb2 _))
      go_ret
      rw [HF.out]
      exact ⟨_, rfl, hown2.ints (fun _ _ h => h), hb1'.trans hb2⟩
    · have hc1' : (kind == 1) = false := by simpa using hc1
      clear hc1
      by_cases hc2 : kind = 2
      · subst hc2
        by_cases hd3 : i < at_ + (nodes.length : Int)
        · skip
          have HF : Hid (insideS ⟨2, row, at_, n, nodes, slot, old, text⟩ i s r = [at_]) := by
            show _ = _
            unfold insideS
            repeat' split
            all_goals first | rfl | (exfalso; simp_all; done) | (exfalso; simp_all; omega) | (simp; done) | (simp; omega)
          go_enter Try.func45, Try.ntmps45
          go_wp2_with fail
          go_ret
          rw [HF.out]
          exact ⟨_, rfl, lit_post ((below_alloc _ _).trans ((below_alloc _ _).mono (by simp))) [at_] (by intro x hx; simp only [List.mem_cons, List.not_mem_nil, or_false] at hx; rcases hx with rfl <;> (apply in64_of <;> omega)) (by simp) _ _ rfl (by simp) _ rfl⟩
        · have hd3' := Int.not_lt.1 hd3
          clear hd3
          have HF : Hid (insideS ⟨2, row, at_, n, nodes, slot, old, text⟩ i s r = [i - (nodes.length : Int)] ++ [s] ++ r) := by
            show _ = _
            unfold insideS
            repeat' split
            all_goals first | rfl | (exfalso; simp_all; done) | (exfalso; simp_all; omega) | (simp; done) | (simp; omega)
          have H0 := hid (app_pre w ((w.alloc (Obj.cells #[.int .i64 2, .slice Ar lr cr, .int .i64 at_, .int .i64 n, .slice An nodes.length cn, .int .i64 slot, .string old, .string text] 27)).alloc (.cells #[.int .i64 i] 3)) ((below_alloc _ _).trans ((below_alloc _ _).mono (by simp))) [i - (nodes.length : Int)] (by intro x hx; simp only [List.mem_cons, List.not_mem_nil, or_false] at hx; rcases hx with rfl <;> (apply in64_of <;> omega)) (by simp) s HS.out 1 (w.heap.size + 1 + 1) (w.heap.size + 1 + 1 + 1) rfl (by simp) (by simp) #[.int .i64 (i - (nodes.length : Int))] rfl)
          go_enter Try.func45, Try.ntmps45
          go_wp2_with (first | (at_builtin; refine app_ints rfl (.tmp 155) (.tmp 157) rfl w.heap.size _ [i - (nodes.length : Int)] [s] rfl H0.out.1 _ _ _ _ rfl H0.out.2.1 (by simp) H0.out.2.2.size ?_; intro v1 w1 hown1 hb1 _; have hb1' := H0.out.2.2.trans hb1) | (at_builtin; refine app_ints rfl (.tmp 158) (.tmp 159) rfl w.heap.size v1 ([i - (nodes.length : Int)] ++ [s]) r rfl hown1 _ _ _ _ rfl (HR.out _ hb1') (by simp; omega) hb1'.size ?_; intro v2 w2 hown2 hb2 _))
          go_ret
          rw [HF.out]
          exact ⟨_, rfl, hown2.ints (fun _ _ h => h), hb1'.trans hb2⟩
      · have hc2' : (kind == 2) = false := by simpa using hc2
        clear hc2
        by_cases hc3 : kind = 3
        · subst hc3
          by_cases hd4 : i < at_ + n
          · skip
            have HF : Hid (insideS ⟨3, row, at_, n, nodes, slot, old, text⟩ i s r = [at_, slot, i - at_] ++ [s] ++ r) := by
              show _ = _
              unfold insideS
              repeat' split
              all_goals first | rfl | (exfalso; simp_all; done) | (exfalso; simp_all; omega) | (simp; done) | (simp; omega)
            have H0 := hid (app_pre w ((w.alloc (Obj.cells #[.int .i64 3, .slice Ar lr cr, .int .i64 at_, .int .i64 n, .slice An nodes.length cn, .int .i64 slot, .string old, .string text] 27)).alloc (.cells #[.int .i64 i] 3)) ((below_alloc _ _).trans ((below_alloc _ _).mono (by simp))) [at_, slot, i - at_] (by intro x hx; simp only [List.mem_cons, List.not_mem_nil, or_false] at hx; rcases hx with rfl | rfl | rfl <;> (apply in64_of <;> omega)) (by simp) s HS.out 3 (w.heap.size + 1 + 1) (w.heap.size + 1 + 1 + 1) rfl (by simp) (by simp) #[.int .i64 (at_), .int .i64 (slot), .int .i64 (i - at_)] rfl)
            go_enter Try.func45, Try.ntmps45
            go_wp2_with (first | (at_builtin; refine app_ints rfl (.tmp 155) (.tmp 157) rfl w.heap.size _ [at_, slot, i - at_] [s] rfl H0.out.1 _ _ _ _ rfl H0.out.2.1 (by simp) H0.out.2.2.size ?_; intro v1 w1 hown1 hb1 _; have hb1' := H0.out.2.2.trans hb1) | (at_builtin; refine app_ints rfl (.tmp 158) (.tmp 159) rfl w.heap.size v1 ([at_, slot, i - at_] ++ [s]) r rfl hown1 _ _ _ _ rfl (HR.out _ hb1') (by simp; omega) hb1'.size ?_; intro v2 w2 hown2 hb2 _))
            go_ret
            rw [HF.out]
            exact ⟨_, rfl, hown2.ints (fun _ _ h => h), hb1'.trans hb2⟩
          · have hd4' := Int.not_lt.1 hd4
            clear hd4
            have HF : Hid (insideS ⟨3, row, at_, n, nodes, slot, old, text⟩ i s r = [i - n + 1] ++ [s] ++ r) := by
              show _ = _
              unfold insideS
              repeat' split
              all_goals first | rfl | (exfalso; simp_all; done) | (exfalso; simp_all; omega) | (simp; done) | (simp; omega)
            have H0 := hid (app_pre w ((w.alloc (Obj.cells #[.int .i64 3, .slice Ar lr cr, .int .i64 at_, .int .i64 n, .slice An nodes.length cn, .int .i64 slot, .string old, .string text] 27)).alloc (.cells #[.int .i64 i] 3)) ((below_alloc _ _).trans ((below_alloc _ _).mono (by simp))) [i - n + 1] (by intro x hx; simp only [List.mem_cons, List.not_mem_nil, or_false] at hx; rcases hx with rfl <;> (apply in64_of <;> omega)) (by simp) s HS.out 1 (w.heap.size + 1 + 1) (w.heap.size + 1 + 1 + 1) rfl (by simp) (by simp) #[.int .i64 (i - n + 1)] rfl)
            go_enter Try.func45, Try.ntmps45
            go_wp2_with (first | (at_builtin; refine app_ints rfl (.tmp 155) (.tmp 157) rfl w.heap.size _ [i - n + 1] [s] rfl H0.out.1 _ _ _ _ rfl H0.out.2.1 (by simp) H0.out.2.2.size ?_; intro v1 w1 hown1 hb1 _; have hb1' := H0.out.2.2.trans hb1) | (at_builtin; refine app_ints rfl (.tmp 158) (.tmp 159) rfl w.heap.size v1 ([i - n + 1] ++ [s]) r rfl hown1 _ _ _ _ rfl (HR.out _ hb1') (by simp; omega) hb1'.size ?_; intro v2 w2 hown2 hb2 _))
            go_ret
            rw [HF.out]
            exact ⟨_, rfl, hown2.ints (fun _ _ h => h), hb1'.trans hb2⟩
        · have hc3' : (kind == 3) = false := by simpa using hc3
          clear hc3
          by_cases hc4 : kind = 4
          · subst hc4
            rcases Int.lt_trichotomy s slot with hl5 | he5 | hg5
            · have hq5 : (s == slot) = false := by simp; omega
              have HF : Hid (insideS ⟨4, row, at_, n, nodes, slot, old, text⟩ i s r = [at_]) := by
                show _ = _
                unfold insideS
                repeat' split
                all_goals first | rfl | (exfalso; simp_all; done) | (exfalso; simp_all; omega) | (simp; done) | (simp; omega)
              go_enter Try.func45, Try.ntmps45
              go_wp2_with fail
              go_ret
              rw [HF.out]
              exact ⟨_, rfl, lit_post ((below_alloc _ _).trans ((below_alloc _ _).mono (by simp))) [at_] (by intro x hx; simp only [List.mem_cons, List.not_mem_nil, or_false] at hx; rcases hx with rfl <;> (apply in64_of <;> omega)) (by simp) _ _ rfl (by simp) _ rfl⟩
            · have hq5 : (s == slot) = true := by simp; omega
              have hu5 : s ≤ slot := by omega
              have hv5 : slot ≤ s := by omega
              clear he5
              have HF : Hid (insideS ⟨4, row, at_, n, nodes, slot, old, text⟩ i s r = (at_ + r.headD 0) :: r.tail) := by
                show _ = _
                unfold insideS
                repeat' split
                all_goals first | rfl | (exfalso; simp_all; done) | (exfalso; simp_all; omega) | (simp; done) | (simp; omega)
              have q1 : i = at_ := by omega
              have q2 : s = slot := by omega
              have HFF := HF.out
              clear HF
              cases r with
              | nil => exact absurd hr0 (by simp)
              | cons r0 rest =>
                subst q1 q2
                rw [HFF]
                simp only [List.headD_cons, List.tail_cons, List.length_cons]
                exact inside_eq _ _ _ _ _ _ _ _ _ Ar An Ap lr cr cn cp w HOP.out (HRB.out _ (by simp)) hrl HR0.out
            · have hq5 : (s == slot) = false := by simp; omega
              have HF : Hid (insideS ⟨4, row, at_, n, nodes, slot, old, text⟩ i s r = [at_ + n]) := by
                show _ = _
                unfold insideS
                repeat' split
                all_goals first | rfl | (exfalso; simp_all; done) | (exfalso; simp_all; omega) | (simp; done) | (simp; omega)
              go_enter Try.func45, Try.ntmps45
              go_wp2_with fail
              go_ret
              rw [HF.out]
              exact ⟨_, rfl, lit_post ((below_alloc _ _).trans ((below_alloc _ _).mono (by simp))) [at_ + n] (by intro x hx; simp only [List.mem_cons, List.not_mem_nil, or_false] at hx; rcases hx with rfl <;> (apply in64_of <;> omega)) (by simp) _ _ rfl (by simp) _ rfl⟩
          · have hc4' : (kind == 4) = false := by simpa using hc4
            clear hc4
            have HF : Hid (insideS ⟨kind, row, at_, n, nodes, slot, old, text⟩ i s r = [i] ++ [s] ++ r) := by
              show _ = _
              unfold insideS
              repeat' split
              all_goals first | rfl | (exfalso; simp_all; done) | (exfalso; simp_all; omega) | (simp; done) | (simp; omega)
            have H0 := hid (app_pre w (w.alloc (Obj.cells #[.int .i64 kind, .slice Ar lr cr, .int .i64 at_, .int .i64 n, .slice An nodes.length cn, .int .i64 slot, .string old, .string text] 27)) (below_alloc _ _) [i] (by intro x hx; simp only [List.mem_cons, List.not_mem_nil, or_false] at hx; rcases hx with rfl <;> (apply in64_of <;> omega)) (by simp) s HS.out 1 (w.heap.size + 1) (w.heap.size + 1 + 1) rfl (by simp) (by simp) #[.int .i64 (i)] rfl)
            go_enter Try.func45, Try.ntmps45
            go_wp2_with (first | (at_builtin; refine app_ints rfl (.tmp 155) (.tmp 157) rfl w.heap.size _ [i] [s] rfl H0.out.1 _ _ _ _ rfl H0.out.2.1 (by simp) H0.out.2.2.size ?_; intro v1 w1 hown1 hb1 _; have hb1' := H0.out.2.2.trans hb1) | (at_builtin; refine app_ints rfl (.tmp 158) (.tmp 159) rfl w.heap.size v1 ([i] ++ [s]) r rfl hown1 _ _ _ _ rfl (HR.out _ hb1') (by simp; omega) hb1'.size ?_; intro v2 w2 hown2 hb2 _))
            go_ret
            rw [HF.out]
            exact ⟨_, rfl, hown2.ints (fun _ _ h => h), hb1'.trans hb2⟩
  · have hq0 : (i == at_) = false := by simp; omega
    by_cases hc1 : kind = 1
    · subst hc1
      have HF : Hid (insideS ⟨1, row, at_, n, nodes, slot, old, text⟩ i s r = [i + (nodes.length : Int)] ++ [s] ++ r) := by
        show _ = _
        unfold insideS
        repeat' split
        all_goals first | rfl | (exfalso; simp_all; done) | (exfalso; simp_all; omega) | (simp; done) | (simp; omega)
      have H0 := hid (app_pre w ((w.alloc (Obj.cells #[.int .i64 1, .slice Ar lr cr, .int .i64 at_, .int .i64 n, .slice An nodes.length cn, .int .i64 slot, .string old, .string text] 27)).alloc (.cells #[.int .i64 i] 3)) ((below_alloc _ _).trans ((below_alloc _ _).mono (by simp))) [i + (nodes.length : Int)] (by intro x hx; simp only [List.mem_cons, List.not_mem_nil, or_false] at hx; rcases hx with rfl <;> (apply in64_of <;> omega)) (by simp) s HS.out 1 (w.heap.size + 1 + 1) (w.heap.size + 1 + 1 + 1) rfl (by simp) (by simp) #[.int .i64 (i + (nodes.length : Int))] rfl)
      go_enter Try.func45, Try.ntmps45
      go_wp2_with (first | (at_builtin; refine app_ints rfl (.tmp 155) (.tmp 157) rfl w.heap.size _ [i + (nodes.length : Int)] [s] rfl H0.out.1 _ _ _ _ rfl H0.out.2.1 (by simp) H0.out.2.2.size ?_; intro v1 w1 hown1 hb1 _; have hb1' := H0.out.2.2.trans hb1) | (at_builtin; refine app_ints rfl (.tmp 158) (.tmp 159) rfl w.heap.size v1 ([i + (nodes.length : Int)] ++ [s]) r rfl hown1 _ _ _ _ rfl (HR.out _ hb1') (by simp; omega) hb1'.size ?_; intro v2 w2 hown2 hb2 _))
      go_ret
      rw [HF.out]
      exact ⟨_, rfl, hown2.ints (fun _ _ h => h), hb1'.trans hb2⟩
    · have hc1' : (kind == 1) = false := by simpa using hc1
      clear hc1
      by_cases hc2 : kind = 2
      · subst hc2
        by_cases hd3 : i < at_ + (nodes.length : Int)
        · skip
          have HF : Hid (insideS ⟨2, row, at_, n, nodes, slot, old, text⟩ i s r = [at_]) := by
            show _ = _
            unfold insideS
            repeat' split
            all_goals first | rfl | (exfalso; simp_all; done) | (exfalso; simp_all; omega) | (simp; done) | (simp; omega)
          go_enter Try.func45, Try.ntmps45
          go_wp2_with fail
          go_ret
          rw [HF.out]
          exact ⟨_, rfl, lit_post ((below_alloc _ _).trans ((below_alloc _ _).mono (by simp))) [at_] (by intro x hx; simp only [List.mem_cons, List.not_mem_nil, or_false] at hx; rcases hx with rfl <;> (apply in64_of <;> omega)) (by simp) _ _ rfl (by simp) _ rfl⟩
        · have hd3' := Int.not_lt.1 hd3
          clear hd3
          have HF : Hid (insideS ⟨2, row, at_, n, nodes, slot, old, text⟩ i s r = [i - (nodes.length : Int)] ++ [s] ++ r) := by
            show _ = _
            unfold insideS
            repeat' split
            all_goals first | rfl | (exfalso; simp_all; done) | (exfalso; simp_all; omega) | (simp; done) | (simp; omega)
          have H0 := hid (app_pre w ((w.alloc (Obj.cells #[.int .i64 2, .slice Ar lr cr, .int .i64 at_, .int .i64 n, .slice An nodes.length cn, .int .i64 slot, .string old, .string text] 27)).alloc (.cells #[.int .i64 i] 3)) ((below_alloc _ _).trans ((below_alloc _ _).mono (by simp))) [i - (nodes.length : Int)] (by intro x hx; simp only [List.mem_cons, List.not_mem_nil, or_false] at hx; rcases hx with rfl <;> (apply in64_of <;> omega)) (by simp) s HS.out 1 (w.heap.size + 1 + 1) (w.heap.size + 1 + 1 + 1) rfl (by simp) (by simp) #[.int .i64 (i - (nodes.length : Int))] rfl)
          go_enter Try.func45, Try.ntmps45
          go_wp2_with (first | (at_builtin; refine app_ints rfl (.tmp 155) (.tmp 157) rfl w.heap.size _ [i - (nodes.length : Int)] [s] rfl H0.out.1 _ _ _ _ rfl H0.out.2.1 (by simp) H0.out.2.2.size ?_; intro v1 w1 hown1 hb1 _; have hb1' := H0.out.2.2.trans hb1) | (at_builtin; refine app_ints rfl (.tmp 158) (.tmp 159) rfl w.heap.size v1 ([i - (nodes.length : Int)] ++ [s]) r rfl hown1 _ _ _ _ rfl (HR.out _ hb1') (by simp; omega) hb1'.size ?_; intro v2 w2 hown2 hb2 _))
          go_ret
          rw [HF.out]
          exact ⟨_, rfl, hown2.ints (fun _ _ h => h), hb1'.trans hb2⟩
      · have hc2' : (kind == 2) = false := by simpa using hc2
        clear hc2
        by_cases hc3 : kind = 3
        · subst hc3
          by_cases hd4 : i < at_ + n
          · skip
            have HF : Hid (insideS ⟨3, row, at_, n, nodes, slot, old, text⟩ i s r = [at_, slot, i - at_] ++ [s] ++ r) := by
              show _ = _
              unfold insideS
              repeat' split
              all_goals first | rfl | (exfalso; simp_all; done) | (exfalso; simp_all; omega) | (simp; done) | (simp; omega)
            have H0 := hid (app_pre w ((w.alloc (Obj.cells #[.int .i64 3, .slice Ar lr cr, .int .i64 at_, .int .i64 n, .slice An nodes.length cn, .int .i64 slot, .string old, .string text] 27)).alloc (.cells #[.int .i64 i] 3)) ((below_alloc _ _).trans ((below_alloc _ _).mono (by simp))) [at_, slot, i - at_] (by intro x hx; simp only [List.mem_cons, List.not_mem_nil, or_false] at hx; rcases hx with rfl | rfl | rfl <;> (apply in64_of <;> omega)) (by simp) s HS.out 3 (w.heap.size + 1 + 1) (w.heap.size + 1 + 1 + 1) rfl (by simp) (by simp) #[.int .i64 (at_), .int .i64 (slot), .int .i64 (i - at_)] rfl)
            go_enter Try.func45, Try.ntmps45
            go_wp2_with (first | (at_builtin; refine app_ints rfl (.tmp 155) (.tmp 157) rfl w.heap.size _ [at_, slot, i - at_] [s] rfl H0.out.1 _ _ _ _ rfl H0.out.2.1 (by simp) H0.out.2.2.size ?_; intro v1 w1 hown1 hb1 _; have hb1' := H0.out.2.2.trans hb1) | (at_builtin; refine app_ints rfl (.tmp 158) (.tmp 159) rfl w.heap.size v1 ([at_, slot, i - at_] ++ [s]) r rfl hown1 _ _ _ _ rfl (HR.out _ hb1') (by simp; omega) hb1'.size ?_; intro v2 w2 hown2 hb2 _))
            go_ret
            rw [HF.out]
            exact ⟨_, rfl, hown2.ints (fun _ _ h => h), hb1'.trans hb2⟩
          · have hd4' := Int.not_lt.1 hd4
            clear hd4
            have HF : Hid (insideS ⟨3, row, at_, n, nodes, slot, old, text⟩ i s r = [i - n + 1] ++ [s] ++ r) := by
              show _ = _
              unfold insideS
              repeat' split
              all_goals first | rfl | (exfalso; simp_all; done) | (exfalso; simp_all; omega) | (simp; done) | (simp; omega)
            have H0 := hid (app_pre w ((w.alloc (Obj.cells #[.int .i64 3, .slice Ar lr cr, .int .i64 at_, .int .i64 n, .slice An nodes.length cn, .int .i64 slot, .string old, .string text] 27)).alloc (.cells #[.int .i64 i] 3)) ((below_alloc _ _).trans ((below_alloc _ _).mono (by simp))) [i - n + 1] (by intro x hx; simp only [List.mem_cons, List.not_mem_nil, or_false] at hx; rcases hx with rfl <;> (apply in64_of <;> omega)) (by simp) s HS.out 1 (w.heap.size + 1 + 1) (w.heap.size + 1 + 1 + 1) rfl (by simp) (by simp) #[.int .i64 (i - n + 1)] rfl)
            go_enter Try.func45, Try.ntmps45
            go_wp2_with (first | (at_builtin; refine app_ints rfl (.tmp 155) (.tmp 157) rfl w.heap.size _ [i - n + 1] [s] rfl H0.out.1 _ _ _ _ rfl H0.out.2.1 (by simp) H0.out.2.2.size ?_; intro v1 w1 hown1 hb1 _; have hb1' := H0.out.2.2.trans hb1) | (at_builtin; refine app_ints rfl (.tmp 158) (.tmp 159) rfl w.heap.size v1 ([i - n + 1] ++ [s]) r rfl hown1 _ _ _ _ rfl (HR.out _ hb1') (by simp; omega) hb1'.size ?_; intro v2 w2 hown2 hb2 _))
            go_ret
            rw [HF.out]
            exact ⟨_, rfl, hown2.ints (fun _ _ h => h), hb1'.trans hb2⟩
        · have hc3' : (kind == 3) = false := by simpa using hc3
          clear hc3
          by_cases hc4 : kind = 4
          · subst hc4
            have HF : Hid (insideS ⟨4, row, at_, n, nodes, slot, old, text⟩ i s r = [i - 1 + n] ++ [s] ++ r) := by
              show _ = _
              unfold insideS
              repeat' split
              all_goals first | rfl | (exfalso; simp_all; done) | (exfalso; simp_all; omega) | (simp; done) | (simp; omega)
            have H0 := hid (app_pre w ((w.alloc (Obj.cells #[.int .i64 4, .slice Ar lr cr, .int .i64 at_, .int .i64 n, .slice An nodes.length cn, .int .i64 slot, .string old, .string text] 27)).alloc (.cells #[.int .i64 i] 3)) ((below_alloc _ _).trans ((below_alloc _ _).mono (by simp))) [i - 1 + n] (by intro x hx; simp only [List.mem_cons, List.not_mem_nil, or_false] at hx; rcases hx with rfl <;> (apply in64_of <;> omega)) (by simp) s HS.out 1 (w.heap.size + 1 + 1) (w.heap.size + 1 + 1 + 1) rfl (by simp) (by simp) #[.int .i64 (i - 1 + n)] rfl)
            go_enter Try.func45, Try.ntmps45
            go_wp2_with (first | (at_builtin; refine app_ints rfl (.tmp 155) (.tmp 157) rfl w.heap.size _ [i - 1 + n] [s] rfl H0.out.1 _ _ _ _ rfl H0.out.2.1 (by simp) H0.out.2.2.size ?_; intro v1 w1 hown1 hb1 _; have hb1' := H0.out.2.2.trans hb1) | (at_builtin; refine app_ints rfl (.tmp 158) (.tmp 159) rfl w.heap.size v1 ([i - 1 + n] ++ [s]) r rfl hown1 _ _ _ _ rfl (HR.out _ hb1') (by simp; omega) hb1'.size ?_; intro v2 w2 hown2 hb2 _))
            go_ret
            rw [HF.out]
            exact ⟨_, rfl, hown2.ints (fun _ _ h => h), hb1'.trans hb2⟩
          · have hc4' : (kind == 4) = false := by simpa using hc4
            clear hc4
            have HF : Hid (insideS ⟨kind, row, at_, n, nodes, slot, old, text⟩ i s r = [i] ++ [s] ++ r) := by
              show _ = _
              unfold insideS
              repeat' split
              all_goals first | rfl | (exfalso; simp_all; done) | (exfalso; simp_all; omega) | (simp; done) | (simp; omega)
            have H0 := hid (app_pre w (w.alloc (Obj.cells #[.int .i64 kind, .slice Ar lr cr, .int .i64 at_, .int .i64 n, .slice An nodes.length cn, .int .i64 slot, .string old, .string text] 27)) (below_alloc _ _) [i] (by intro x hx; simp only [List.mem_cons, List.not_mem_nil, or_false] at hx; rcases hx with rfl <;> (apply in64_of <;> omega)) (by simp) s HS.out 1 (w.heap.size + 1) (w.heap.size + 1 + 1) rfl (by simp) (by simp) #[.int .i64 (i)] rfl)
            go_enter Try.func45, Try.ntmps45
            go_wp2_with (first | (at_builtin; refine app_ints rfl (.tmp 155) (.tmp 157) rfl w.heap.size _ [i] [s] rfl H0.out.1 _ _ _ _ rfl H0.out.2.1 (by simp) H0.out.2.2.size ?_; intro v1 w1 hown1 hb1 _; have hb1' := H0.out.2.2.trans hb1) | (at_builtin; refine app_ints rfl (.tmp 158) (.tmp 159) rfl w.heap.size v1 ([i] ++ [s]) r rfl hown1 _ _ _ _ rfl (HR.out _ hb1') (by simp; omega) hb1'.size ?_; intro v2 w2 hown2 hb2 _))
            go_ret
            rw [HF.out]
            exact ⟨_, rfl, hown2.ints (fun _ _ h => h), hb1'.trans hb2⟩

end Go.Proofs.Yteckkamlaibjbaa
