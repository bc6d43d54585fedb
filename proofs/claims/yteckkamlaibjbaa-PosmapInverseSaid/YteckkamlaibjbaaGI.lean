/- Texts put together: RefAll, Ref13L, Eq13. -/
import Derived.Test.YteckkamlaibjbaaRef13Dv
import Derived.Test.YteckkamlaibjbaaGO
import Derived.Test.YteckkamlaibjbaaRef13Mv
import Derived.Deep.QuietTactic
import Derived.BigQuiet
import Derived.Test.YteckkamlaibjbaaMapAllv
/- ref13.MapAll. -/
set_option linter.unusedVariables false
set_option linter.unusedSimpArgs false
namespace Go.Proofs.Yteckkamlaibjbaa
open Go.RowKit

def refMapAllS : List OpD → List Int → Bool → List Int
  | [], pos, _ => pos
  | op :: ops, pos, after => refMapAllS ops (refMapS op pos after) after
theorem refMapAllS_drop {ops : List OpD} {k : Nat} (h : k < ops.length) (pos : List Int) (after : Bool) : refMapAllS (ops.drop k) pos after = refMapAllS (ops.drop (k + 1)) (refMapS ops[k] pos after) after := by
  rw [List.drop_eq_getElem_cons h]; rfl

set_option maxHeartbeats 2000000 in
theorem refMapAll_any (ops : List OpD) (pos : List Int) (after : Bool) (Ao Ap : Option Addr) (co cp : Nat) (w : World) (hok : ∀ op ∈ ops, op.Ok) (hol : ops.length ≤ 1000) (ho : SliceR opE w (Lt w.heap.size) ops (.slice Ao ops.length co)) (hpos : IntsR w (Lt w.heap.size) pos (.slice Ap pos.length cp)) (hpl : pos.length ≤ 20000)
    (hall : ∀ k q, k < ops.length → refMapAllS (ops.drop k) q after = refMapAllS ops pos after → q.length ≤ 20000 + 64 * k → (∀ x ∈ q, Bd (1099511627776 + 8796093022208 * k) x) →
      (refMapS (ops.getD k ⟨0, [], 0, 0, [], 0, ⟨#[]⟩, ⟨#[]⟩⟩) q after).length ≤ 20000 + 64 * (k + 1) ∧ ∀ x ∈ refMapS (ops.getD k ⟨0, [], 0, 0, [], 0, ⟨#[]⟩, ⟨#[]⟩⟩) q after, Bd (1099511627776 + 8796093022208 * (k + 1 : Nat)) x)
    (hsmall : ops ≠ [] → ∀ x ∈ pos, Bd 1099511627776 x) :
    Calls Try.prog 21 #[.slice Ao ops.length co, .slice Ap pos.length cp, .bool after] w (IntsPost w (refMapAllS ops pos after)) := by
  have HP : Hid (∀ W, Below w.heap.size w W → IntsR W (Lt w.heap.size) pos (.slice Ap pos.length cp)) := fun W hW => hpos.below hW (Nat.le_refl _)
  obtain ⟨A, cap, rs, e, hc1, hc2, hrd, hls⟩ := ho
  injection e with e1 e2 e3
  subst e1 e3
  have H : Hid (Reads w (Lt w.heap.size) Ao rs ∧ ListR opE w (Lt w.heap.size) ops rs) := ⟨hrd, hls⟩
  have HOK := hid hok
  have HS := hid hsmall
  have HA := hid hall
  clear hrd hls e2 hc1 hc2 hok hsmall hall hpos
  go_enter Try.func21, Try.ntmps21
  go_wp2_with (at_builtin; refine app_ints rfl (.tmp 9) (.tmp 10) rfl w.heap.size _ [] pos rfl (owns_lit _ _ [] (by simp) 0 _ rfl (by simp) (Nat.le_refl _) _ rfl (by simp)) _ _ _ _ rfl (HP.out _ (below_alloc _ _)) (by simp; omega) (by simp) ?_; intro v1 w1 hown1 hb1 _)
  have ho1 : Owns w1 w.heap.size pos v1 := by simpa using hown1
  have HI1 := hid (ho1.ints (S := Lt w1.heap.size) (fun _ _ h => h))
  have HB1 : Hid (Below w.heap.size w w1) := (below_alloc _ _).trans hb1
  clear hown1 hb1 ho1
  go_loopw [7, 8] (fun v i wr => Below w.heap.size w wr ∧ ∃ (k : Nat) (q : List Int), k ≤ ops.length ∧ i = .int .i64 k ∧ IntsR wr (Lt wr.heap.size) q v ∧ refMapAllS (ops.drop k) q after = refMapAllS ops pos after ∧ q.length ≤ 20000 + 64 * k ∧ (ops ≠ [] → ∀ x ∈ q, Bd (1099511627776 + 8796093022208 * k) x)) (fun _ i _ => ops.length - (intOf i).toNat)
  case atStart => exact ⟨HB1.out, 0, pos, Nat.zero_le _, rfl, HI1.out, rfl, by omega, fun hn x hx => ⟨by have := (HS.out hn x hx).1; omega, by have := (HS.out hn x hx).2; omega⟩⟩
  case round =>
    obtain ⟨hb, k, q, hk, rfl, hq, hrest, hql, hqb⟩ := hrel
    obtain ⟨Aq, cq, rfl⟩ := hq.form
    by_cases hlt : k < ops.length
    · have hqb := hqb (by intro h; rw [h] at hlt; simp at hlt)
      obtain ⟨g, o, Ar, An, cr, cn, rfl, hg, c0, c1, c2, c3, c4, c5, c6, c7, hrow, hnod, _, _, _⟩ := ops_at (H.out.1.keep (Same.of_below hb (Nat.le_refl _)) (Lt.mono hb.size)) (H.out.2.keep (Same.of_below hb (Nat.le_refl _)) (Lt.mono hb.size)) hlt
      have hok1 := HOK.out ops[k] (List.getElem_mem _)
      have hnext := refMapAllS_drop hlt q after
      have hge : ops.getD k ⟨0, [], 0, 0, [], 0, ⟨#[]⟩, ⟨#[]⟩⟩ = ops[k] := by rw [List.getD_eq_getElem?_getD, List.getElem?_eq_getElem hlt]; rfl
      have hbd := HA.out k q hlt hrest hql hqb
      rw [hge] at hbd
      have HM : Hid (Calls Try.prog 23 #[.agg (opC ops[k] (.slice Ar ops[k].row.length cr) (.slice An ops[k].nodes.length cn)), .slice Aq q.length cq, .bool after] wr (IntsPost wr (refMapS ops[k] q after))) :=
        refmap_any ops[k] q after Ar An Aq cr cn cq wr hok1 hrow hq (by omega) (fun x hx => ⟨by have := (hqb x hx).1; omega, by have := (hqb x hx).2; omega⟩)
      have HR : Hid (refMapAllS (ops.drop (k + 1)) (refMapS ops[k] q after) after = refMapAllS ops pos after) := hnext.symm.trans hrest
      have HL := hid hbd
      have HB := hid hb
      generalize refMapS ops[k] q after = q' at *
      generalize hopk : ops[k] = op at *
      obtain ⟨kind, row, at_, n, nodes, slot, old, text⟩ := op
      simp only [opC] at c0 c1 c2 c3 c4 c5 c6 c7 HM
      clear hrow hnod hb hq hrest hqb hok1 hnext hbd hopk hg hge
      go_wp2_with fail
      with_reducible refine HM.out.mono ?_
      rintro e w2 ⟨v2, rfl, hi2, hb2⟩
      have HI2 := hid hi2
      have HB2 : Hid (Below w.heap.size w w2) := HB.out.trans (hb2.mono HB.out.size)
      clear hi2 hb2
      go_wp2_with fail
      go_roundw
      case rel => exact ⟨HB2.out, k + 1, q', by omega, by go_num, HI2.out, HR.out, HL.out.1, fun _ => HL.out.2⟩
      case measure => simp [intOf]; omega
    · have HR : Hid (q = refMapAllS ops pos after) := by show _ = _; rw [← hrest, List.drop_of_length_le (by omega)]; rfl
      have HQ := hid hq
      have HB := hid hb
      clear hq hrest hqb hb
      go_wp2_with fail
      go_ret
      rw [← HR.out]
      exact ⟨_, rfl, HQ.out, HB.out⟩
end Go.Proofs.Yteckkamlaibjbaa
/- ref13.Lost: every test decided ahead of the walk. Written by wip/gen13l.py. -/
set_option linter.unusedVariables false
set_option linter.unusedSimpArgs false
namespace Go.Proofs.Yteckkamlaibjbaa
open Go.RowKit

def refLostS (op : OpD) (pos : List Int) : Bool :=
  if withinS pos op.row = true then
    (if op.kind = 2 then (if pos.length = op.row.length + 1 then decide (op.at_ < pos.getD op.row.length 0 ∧ pos.getD op.row.length 0 < op.at_ + op.nodes.length) else decide (op.at_ ≤ pos.getD op.row.length 0 ∧ pos.getD op.row.length 0 < op.at_ + op.nodes.length))
     else if op.kind = 4 then decide (op.row.length + 1 < pos.length ∧ pos.getD op.row.length 0 = op.at_ ∧ pos.getD (op.row.length + 1) 0 ≠ op.slot) else false)
  else false

set_option maxHeartbeats 1000000 in
theorem reflost_no (op : OpD) (pos : List Int) (Ar An Ap : Option Addr) (cr cn cp : Nat) (w : World) (hop : op.Ok) (hr : IntsR w (Lt w.heap.size) op.row (.slice Ar op.row.length cr)) (hpos : IntsR w (Lt w.heap.size) pos (.slice Ap pos.length cp)) (hpl : pos.length ≤ 100000)
    (hw : withinS pos op.row = false) :
    Calls Try.prog 25 #[.agg (opC op (.slice Ar op.row.length cr) (.slice An op.nodes.length cn)), .slice Ap pos.length cp] w fun e w' => e = .returned (.bool false) ∧ Below w.heap.size w w' := by
  have hrl := hop.row
  have HW : Hid (∀ W, Below w.heap.size w W → Calls Try.prog 43 #[.slice Ap pos.length cp, .slice Ar op.row.length cr] W fun e w' => e = .returned (.bool false) ∧ ∃ n, w' = W.drewN n) := by
    intro W hW
    have := within_q pos op.row W _ _ _ _ (hpos.below hW (Nat.le_refl _)) (hr.below hW (Nat.le_refl _)) (by omega)
    rw [hw] at this
    exact this
  obtain ⟨kind, row, at_, n, nodes, slot, old, text⟩ := op
  simp only [opC] at *
  clear hop hr hpos hw
  go_enter Try.func25, Try.ntmps25
  go_wp2_with fail
  refine (HW.out _ (below_alloc _ _)).mono ?_
  rintro e w1 ⟨rfl, nq, rfl⟩
  go_wp2_with fail
  go_ret
  exact ⟨rfl, below_draw (below_alloc _ _) _⟩

set_option maxHeartbeats 4000000 in
set_option maxRecDepth 100000 in
theorem reflost_yes (op : OpD) (pos : List Int) (Ar An Ap : Option Addr) (cr cn cp : Nat) (w : World) (hop : op.Ok) (hr : IntsR w (Lt w.heap.size) op.row (.slice Ar op.row.length cr)) (hpos : IntsR w (Lt w.heap.size) pos (.slice Ap pos.length cp)) (hpl : pos.length ≤ 100000)
    (hb : ∀ x ∈ pos, Bd 1152921504606846976 x) (hw : withinS pos op.row = true) :
    Calls Try.prog 25 #[.agg (opC op (.slice Ar op.row.length cr) (.slice An op.nodes.length cn)), .slice Ap pos.length cp] w fun e w' => e = .returned (.bool (refLostS op pos)) ∧ Below w.heap.size w w' := by
  have hrl := hop.row
  have HW : Hid (∀ W, Below w.heap.size w W → Calls Try.prog 43 #[.slice Ap pos.length cp, .slice Ar op.row.length cr] W fun e w' => e = .returned (.bool true) ∧ ∃ n, w' = W.drewN n) := by
    intro W hW
    have := within_q pos op.row W _ _ _ _ (hpos.below hW (Nat.le_refl _)) (hr.below hW (Nat.le_refl _)) (by omega)
    rw [hw] at this
    exact this
  have hlt : op.row.length < pos.length ∧ pos.length ≠ op.row.length + 2 := by unfold withinS at hw; simp only [decide_eq_true_eq] at hw; exact ⟨hw.1, hw.2.2⟩
  obtain ⟨hlt, hne2⟩ := hlt
  have hx : pos.getD op.row.length 0 = pos[op.row.length] := by rw [List.getD_eq_getElem?_getD, List.getElem?_eq_getElem hlt]; rfl
  have HF : Hid (refLostS op pos = if op.kind = 2 then (if pos.length = op.row.length + 1 then decide (op.at_ < pos[op.row.length] ∧ pos[op.row.length] < op.at_ + op.nodes.length) else decide (op.at_ ≤ pos[op.row.length] ∧ pos[op.row.length] < op.at_ + op.nodes.length))
     else if op.kind = 4 then decide (op.row.length + 1 < pos.length ∧ pos[op.row.length] = op.at_ ∧ pos.getD (op.row.length + 1) 0 ≠ op.slot) else false) := by
    show _ = _; unfold refLostS; rw [if_pos hw, hx]
  obtain ⟨A, cap, rs, e, h1, h2, hrd, hls⟩ := hpos
  injection e with q1 q2 q3
  subst q1 q3
  obtain ⟨g, o, rfl, hg, hi, c0⟩ := ints_at hrd hls hlt
  have hg' : g < w.heap.size := hg
  have HD : Hid (∀ h : op.row.length + 1 < pos.length, w.cell? ⟨g, o + (op.row.length + 1), none⟩ = some (.int .i64 (pos.getD (op.row.length + 1) 0))) := by
    intro h
    obtain ⟨g', o', e', hgg, hi', c1⟩ := ints_at hrd hls h
    injection e' with e'
    injection e' with e1' e2'
    subst e1' e2'
    rw [List.getD_eq_getElem?_getD, List.getElem?_eq_getElem h]; exact c1
  obtain ⟨hxb1, hxb2⟩ := hb pos[op.row.length] (List.getElem_mem _)
  generalize pos.getD (op.row.length + 1) 0 = y at *
  generalize hxx : pos[op.row.length] = x at *
  obtain ⟨⟨hat1, hat2⟩, hn, hslot, hnl, hrl'⟩ := hop
  obtain ⟨kind, row, at_, n, nodes, slot, old, text⟩ := op
  simp only [opC] at *
  have hr9 : row.length ≤ 1000 := hrl'
  have hlt9 : row.length < pos.length := hlt
  have hne9 : pos.length ≠ row.length + 2 := hne2
  have hr2 : (row.length : Int) < (pos.length : Int) := by omega
  have hw2 : IntKind.i64.wrap ((row.length : Int) + 1) = (row.length : Int) + 1 := IntWalk.i64_in _ (by omega)
  have ht1 : ((row.length : Int) + 1).toNat = row.length + 1 := by omega
  have hp1 : (0 : Int) ≤ (row.length : Int) + 1 := by omega
  have HB : Hid (Below w.heap.size w (w.alloc (Obj.cells #[.int .i64 kind, .slice Ar row.length cr, .int .i64 at_, .int .i64 n, .slice An nodes.length cn, .int .i64 slot, .string old, .string text] 27))) := below_alloc _ _
  clear hr hw hrd hls q2 hg hi hb hx hxx h1 h2 hslot hn
  by_cases hk2 : kind = 2
  · subst hk2
    by_cases hl : pos.length = row.length + 1
    · have hl1 : ((pos.length : Int) == (row.length : Int) + 1) = true := by simp; omega
      by_cases ha : at_ < x
      · by_cases hc : x < at_ + (nodes.length : Int)
        · have hfin : refLostS ⟨2, row, at_, n, nodes, slot, old, text⟩ pos = true := by rw [HF.out]; simp [hl, ha, hc]
          clear hl
          have HG := hid hfin
          clear hfin
          go_enter Try.func25, Try.ntmps25
          go_wp2_with fail
          refine (HW.out _ (below_alloc _ _)).mono ?_
          rintro e w1 ⟨rfl, nq, rfl⟩
          go_wp2_with fail
          go_ret
          exact ⟨by rw [HG.out]; rfl, by first | exact below_draw (below_alloc _ _) _ | (simp only [World.drewN_drewN]; exact below_draw (below_alloc _ _) _)⟩
        · have hfin : refLostS ⟨2, row, at_, n, nodes, slot, old, text⟩ pos = false := by rw [HF.out]; simp [hl]; omega
          have hc' : decide (x < at_ + (nodes.length : Int)) = false := decide_eq_false hc
          clear hl hc
          have HG := hid hfin
          clear hfin
          go_enter Try.func25, Try.ntmps25
          go_wp2_with fail
          refine (HW.out _ (below_alloc _ _)).mono ?_
          rintro e w1 ⟨rfl, nq, rfl⟩
          go_wp2_with fail
          go_ret
          exact ⟨by rw [HG.out]; rfl, by first | exact below_draw (below_alloc _ _) _ | (simp only [World.drewN_drewN]; exact below_draw (below_alloc _ _) _)⟩
      · have hfin : refLostS ⟨2, row, at_, n, nodes, slot, old, text⟩ pos = false := by rw [HF.out]; simp [hl]; omega
        have ha' := Int.not_lt.1 ha
        clear hl ha
        have HG := hid hfin
        clear hfin
        go_enter Try.func25, Try.ntmps25
        go_wp2_with fail
        refine (HW.out _ (below_alloc _ _)).mono ?_
        rintro e w1 ⟨rfl, nq, rfl⟩
        go_wp2_with fail
        go_ret
        exact ⟨by rw [HG.out]; rfl, by first | exact below_draw (below_alloc _ _) _ | (simp only [World.drewN_drewN]; exact below_draw (below_alloc _ _) _)⟩
    · have hl1 : ((pos.length : Int) == (row.length : Int) + 1) = false := by simp; omega
      by_cases ha : at_ ≤ x
      · by_cases hc : x < at_ + (nodes.length : Int)
        · have hfin : refLostS ⟨2, row, at_, n, nodes, slot, old, text⟩ pos = true := by rw [HF.out]; simp [hl, ha, hc]
          clear hl
          have HG := hid hfin
          clear hfin
          go_enter Try.func25, Try.ntmps25
          go_wp2_with fail
          refine (HW.out _ (below_alloc _ _)).mono ?_
          rintro e w1 ⟨rfl, nq, rfl⟩
          go_wp2_with fail
          go_ret
          exact ⟨by rw [HG.out]; rfl, by first | exact below_draw (below_alloc _ _) _ | (simp only [World.drewN_drewN]; exact below_draw (below_alloc _ _) _)⟩
        · have hfin : refLostS ⟨2, row, at_, n, nodes, slot, old, text⟩ pos = false := by rw [HF.out]; simp [hl]; omega
          have hc' : decide (x < at_ + (nodes.length : Int)) = false := decide_eq_false hc
          clear hl hc
          have HG := hid hfin
          clear hfin
          go_enter Try.func25, Try.ntmps25
          go_wp2_with fail
          refine (HW.out _ (below_alloc _ _)).mono ?_
          rintro e w1 ⟨rfl, nq, rfl⟩
          go_wp2_with fail
          go_ret
          exact ⟨by rw [HG.out]; rfl, by first | exact below_draw (below_alloc _ _) _ | (simp only [World.drewN_drewN]; exact below_draw (below_alloc _ _) _)⟩
      · have hfin : refLostS ⟨2, row, at_, n, nodes, slot, old, text⟩ pos = false := by rw [HF.out]; simp [hl]; omega
        have ha' := Int.not_le.1 ha
        clear hl ha
        have HG := hid hfin
        clear hfin
        go_enter Try.func25, Try.ntmps25
        go_wp2_with fail
        refine (HW.out _ (below_alloc _ _)).mono ?_
        rintro e w1 ⟨rfl, nq, rfl⟩
        go_wp2_with fail
        go_ret
        exact ⟨by rw [HG.out]; rfl, by first | exact below_draw (below_alloc _ _) _ | (simp only [World.drewN_drewN]; exact below_draw (below_alloc _ _) _)⟩
  have e2 : (kind == 2) = false := by simpa using hk2
  by_cases hk4 : kind = 4
  · subst hk4
    by_cases hl : row.length + 1 < pos.length
    · have hl1 : (row.length : Int) + 1 < (pos.length : Int) := by omega
      have c1 := HD.out hl
      by_cases ha : x = at_
      · have ha1 : (x == at_) = true := by simpa using ha
        by_cases hs : y = slot
        · have hs1 : (y != slot) = false := by simpa using hs
          have hfin : refLostS ⟨4, row, at_, n, nodes, slot, old, text⟩ pos = false := by rw [HF.out]; simp [hs]
          clear hs ha hl hk2
          have HG := hid hfin
          clear hfin
          go_enter Try.func25, Try.ntmps25
          go_wp2_with fail
          refine (HW.out _ (below_alloc _ _)).mono ?_
          rintro e w1 ⟨rfl, nq, rfl⟩
          go_wp2_with fail
          go_quiet (fail)
          go_wp2_with fail
          go_ret
          exact ⟨by rw [HG.out]; rfl, by first | exact below_draw (below_alloc _ _) _ | (simp only [World.drewN_drewN]; exact below_draw (below_alloc _ _) _)⟩
        · have hs1 : (y != slot) = true := by simpa using hs
          have hfin : refLostS ⟨4, row, at_, n, nodes, slot, old, text⟩ pos = true := by rw [HF.out]; simp [hs, ha, hl]
          clear hs ha hl hk2
          have HG := hid hfin
          clear hfin
          go_enter Try.func25, Try.ntmps25
          go_wp2_with fail
          refine (HW.out _ (below_alloc _ _)).mono ?_
          rintro e w1 ⟨rfl, nq, rfl⟩
          go_wp2_with fail
          go_quiet (fail)
          go_wp2_with fail
          go_ret
          exact ⟨by rw [HG.out]; rfl, by first | exact below_draw (below_alloc _ _) _ | (simp only [World.drewN_drewN]; exact below_draw (below_alloc _ _) _)⟩
      · have ha1 : (x == at_) = false := by simpa using ha
        have hfin : refLostS ⟨4, row, at_, n, nodes, slot, old, text⟩ pos = false := by rw [HF.out]; simp [ha]
        clear ha hl hk2
        have HG := hid hfin
        clear hfin
        go_enter Try.func25, Try.ntmps25
        go_wp2_with fail
        refine (HW.out _ (below_alloc _ _)).mono ?_
        rintro e w1 ⟨rfl, nq, rfl⟩
        go_wp2_with fail
        go_quiet (fail)
        go_wp2_with fail
        go_ret
        exact ⟨by rw [HG.out]; rfl, by first | exact below_draw (below_alloc _ _) _ | (simp only [World.drewN_drewN]; exact below_draw (below_alloc _ _) _)⟩
    · have hl1 : (pos.length : Int) ≤ (row.length : Int) + 1 := by omega
      have hfin : refLostS ⟨4, row, at_, n, nodes, slot, old, text⟩ pos = false := by rw [HF.out]; simp; intro h; omega
      have hl2 : decide ((row.length : Int) + 1 < (pos.length : Int)) = false := by simp; omega
      clear hl hk2
      have HG := hid hfin
      clear hfin
      go_enter Try.func25, Try.ntmps25
      go_wp2_with fail
      refine (HW.out _ (below_alloc _ _)).mono ?_
      rintro e w1 ⟨rfl, nq, rfl⟩
      go_wp2_with fail
      go_quiet (fail)
      go_wp2_with fail
      go_ret
      exact ⟨by rw [HG.out]; rfl, by first | exact below_draw (below_alloc _ _) _ | (simp only [World.drewN_drewN]; exact below_draw (below_alloc _ _) _)⟩
  have e4 : (kind == 4) = false := by simpa using hk4
  have hfin : refLostS ⟨kind, row, at_, n, nodes, slot, old, text⟩ pos = false := by rw [HF.out]; simp [hk2, hk4]
  clear hk2 hk4
  have HG := hid hfin
  clear hfin
  go_enter Try.func25, Try.ntmps25
  go_wp2_with fail
  refine (HW.out _ (below_alloc _ _)).mono ?_
  rintro e w1 ⟨rfl, nq, rfl⟩
  go_wp2_with fail
  go_ret
  exact ⟨by rw [HG.out]; rfl, by first | exact below_draw (below_alloc _ _) _ | (simp only [World.drewN_drewN]; exact below_draw (below_alloc _ _) _)⟩

theorem reflost_any (op : OpD) (pos : List Int) (Ar An Ap : Option Addr) (cr cn cp : Nat) (w : World) (hop : op.Ok) (hr : IntsR w (Lt w.heap.size) op.row (.slice Ar op.row.length cr)) (hpos : IntsR w (Lt w.heap.size) pos (.slice Ap pos.length cp)) (hpl : pos.length ≤ 100000)
    (hb : ∀ x ∈ pos, Bd 1152921504606846976 x) :
    Calls Try.prog 25 #[.agg (opC op (.slice Ar op.row.length cr) (.slice An op.nodes.length cn)), .slice Ap pos.length cp] w fun e w' => e = .returned (.bool (refLostS op pos)) ∧ Below w.heap.size w w' := by
  by_cases hw : withinS pos op.row = true
  · exact reflost_yes op pos Ar An Ap cr cn cp w hop hr hpos hpl hb hw
  · have := reflost_no op pos Ar An Ap cr cn cp w hop hr hpos hpl (by simpa using hw)
    have e : refLostS op pos = false := by unfold refLostS; rw [if_neg hw]
    rw [e]; exact this
end Go.Proofs.Yteckkamlaibjbaa
/- The plain law of layer 13: the program's image is the reference's. -/
set_option linter.unusedVariables false
set_option linter.unusedSimpArgs false
namespace Go.Proofs.Yteckkamlaibjbaa
open Go.RowKit

set_option maxHeartbeats 1000000 in
theorem image_flat (op : OpD) (x : Int) (after : Bool) : (imageS ⟨op, op.nodes.length, x, false, 0, []⟩ after).1 = offsetS op x after := by
  obtain ⟨kind, row, at_, n, nodes, slot, old, text⟩ := op
  generalize hK : (nodes.length : Int) = K
  have hK0 : 0 ≤ K := by omega
  unfold imageS insertS removeS wrapS unwrapS behindS offsetS
  simp only [hK]
  by_cases h1 : kind = 1
  · subst h1; simp; rcases Int.lt_trichotomy x at_ with h | h | h <;> cases after <;> (repeat' split) <;> first | rfl | (exfalso; omega) | (simp_all; done) | (simp_all; omega)
  by_cases h2 : kind = 2
  · subst h2; simp <;> (repeat' split) <;> first | rfl | (exfalso; omega) | (simp_all; done) | (simp_all; omega)
  by_cases h3 : kind = 3
  · subst h3; simp; cases after <;> (repeat' split) <;> first | rfl | (exfalso; omega) | (simp_all; done) | (simp_all; omega)
  by_cases h4 : kind = 4
  · subst h4; simp <;> (repeat' split) <;> first | rfl | (exfalso; omega) | (simp_all; done) | (simp_all; omega)
  simp [h1, h2, h3, h4]

set_option maxHeartbeats 1000000 in
theorem image_deep (op : OpD) (x y : Int) (r : List Int) (after : Bool) : (imageS ⟨op, op.nodes.length, x, true, y, r⟩ after).1 = insideS op x y r := by
  obtain ⟨kind, row, at_, n, nodes, slot, old, text⟩ := op
  generalize hK : (nodes.length : Int) = K
  have hK0 : 0 ≤ K := by omega
  unfold imageS insertS removeS wrapS unwrapS behindS insideS
  simp only [hK]
  by_cases h1 : kind = 1
  · subst h1; simp <;> (repeat' split) <;> first | rfl | (exfalso; omega) | (simp_all; done) | (simp_all; omega)
  by_cases h2 : kind = 2
  · subst h2; simp <;> (repeat' split) <;> first | rfl | (exfalso; omega) | (simp_all; done) | (simp_all; omega)
  by_cases h3 : kind = 3
  · subst h3; simp <;> (repeat' split) <;> first | rfl | (exfalso; omega) | (simp_all; done) | (simp_all; omega)
  by_cases h4 : kind = 4
  · subst h4; simp <;> (repeat' split) <;> first | rfl | (exfalso; omega) | (simp_all; done) | (simp_all; omega)
  simp [h1, h2, h3, h4]

theorem map_eq (op : OpD) (pos : List Int) (after : Bool) : mapS op pos after = refMapS op pos after := by
  unfold mapS refMapS
  split
  · rename_i hw
    obtain ⟨h1, h2, h3⟩ := within_iff.1 hw
    unfold placeOf
    split
    · rename_i h
      rw [if_neg (by omega), image_deep]
    · rename_i h
      rw [if_pos (by omega), image_flat]
  · rfl

theorem mapAll_eq (ops : List OpD) : ∀ (pos : List Int) (after : Bool), mapAllS ops pos after = refMapAllS ops pos after := by
  induction ops with
  | nil => intro pos after; rfl
  | cons op ops ih => intro pos after; show mapAllS ops _ after = refMapAllS ops _ after; rw [map_eq, ih]

set_option maxHeartbeats 1000000 in
theorem lost_eq (op : OpD) (pos : List Int) : lostS op pos = refLostS op pos := by
  unfold lostS refLostS
  split
  · rename_i hw
    obtain ⟨h1, h2, h3⟩ := within_iff.1 hw
    unfold placeOf
    generalize pos.getD op.row.length 0 = x
    generalize pos.getD (op.row.length + 1) 0 = y
    obtain ⟨kind, row, at_, n, nodes, slot, old, text⟩ := op
    simp only at *
    generalize hK : (nodes.length : Int) = K
    have hK0 : 0 ≤ K := by omega
    have hll : row.length + 1 < pos.length ∨ pos.length = row.length + 1 := by omega
    rcases hll with hl | hl
    · have hl' : ¬ pos.length = row.length + 1 := by omega
      rw [if_pos hl, if_neg hl']
      unfold imageS insertS removeS wrapS unwrapS
      simp only [hK]
      by_cases k1 : kind = 1
      · subst k1; simp
      by_cases k2 : kind = 2
      · subst k2; simp <;> (repeat' split) <;> first | rfl | (exfalso; omega) | (simp_all; done) | (simp_all; omega)
      by_cases k3 : kind = 3
      · subst k3; simp
      by_cases k4 : kind = 4
      · subst k4; simp <;> (repeat' split) <;> first | rfl | (exfalso; omega) | (simp_all; done) | (simp_all; omega)
      simp [k1, k2, k3, k4]
    · rw [if_neg (by omega), if_pos hl]
      unfold imageS insertS removeS wrapS unwrapS
      simp only [hK]
      by_cases k1 : kind = 1
      · subst k1; simp
      by_cases k2 : kind = 2
      · subst k2; simp <;> (repeat' split) <;> first | rfl | (exfalso; omega) | (simp_all; done) | (simp_all; omega)
      by_cases k3 : kind = 3
      · subst k3; simp
      by_cases k4 : kind = 4
      · subst k4; simp <;> (repeat' split) <;> first | rfl | (exfalso; omega) | (simp_all; done) | (simp_all; omega)
      simp [k1, k2, k3, k4]
  · rfl
end Go.Proofs.Yteckkamlaibjbaa
