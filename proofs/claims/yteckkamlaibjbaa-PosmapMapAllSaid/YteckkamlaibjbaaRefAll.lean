/- ref13.MapAll. -/
import Derived.Test.YteckkamlaibjbaaRef13D
import Derived.Test.YteckkamlaibjbaaFew13
set_option linter.unusedVariables false
set_option linter.unusedSimpArgs false
namespace Go.Proofs.Yteckkamlaibjbaa
open Go.RowKit

def refMapAllS : List OpD → List Int → Bool → List Int
  | [], pos, _ => pos
  | op :: ops, pos, after => refMapAllS ops (refMapS op pos after) after
theorem refMapAllS_drop {ops : List OpD} {k : Nat} (h : k < ops.length) (pos : List Int) (after : Bool) : refMapAllS (ops.drop k) pos after = refMapAllS (ops.drop (k + 1)) (refMapS ops[k] pos after) after := by
  rw [List.drop_eq_getElem_cons h]; rfl

set_option maxHeartbeats 2000000 in
theorem refMapAll_any (ops : List OpD) (pos : List Int) (after : Bool) (Ao Ap : Option Addr) (co cp : Nat) (w : World) (hok : ∀ op ∈ ops, op.Ok) (hol : ops.length ≤ 1000) (ho : SliceR opE w (Lt w.heap.size) ops (.slice Ao ops.length co)) (hpos : IntsR w (Lt w.heap.size) pos (.slice Ap pos.length cp)) (hpl : pos.length ≤ 20000)
    (hall : ∀ k q, k < ops.length → refMapAllS (ops.drop k) q after = refMapAllS ops pos after → q.length ≤ 20000 + 64 * k → (∀ x ∈ q, Bd (1099511627776 + 8796093022208 * k) x) →
      (refMapS (ops.getD k ⟨0, [], 0, 0, [], 0, ⟨#[]⟩, ⟨#[]⟩⟩) q after).length ≤ 20000 + 64 * (k + 1) ∧ ∀ x ∈ refMapS (ops.getD k ⟨0, [], 0, 0, [], 0, ⟨#[]⟩, ⟨#[]⟩⟩) q after, Bd (1099511627776 + 8796093022208 * (k + 1 : Nat)) x)
    (hsmall : ops ≠ [] → ∀ x ∈ pos, Bd 1099511627776 x) :
    Calls Try.prog 21 #[.slice Ao ops.length co, .slice Ap pos.length cp, .bool after] w (IntsPost w (refMapAllS ops pos after)) := by
  have HP : Hid (∀ W, Below w.heap.size w W → IntsR W (Lt w.heap.size) pos (.slice Ap pos.length cp)) := fun W hW => hpos.below hW (Nat.le_refl _)
  obtain ⟨A, cap, rs, e, hc1, hc2, hrd, hls⟩ := ho
  injection e with e1 e2 e3
  subst e1 e3
  have H : Hid (Reads w (Lt w.heap.size) Ao rs ∧ ListR opE w (Lt w.heap.size) ops rs) := ⟨hrd, hls⟩
  have HOK := hid hok
  have HS := hid hsmall
  have HA := hid hall
  clear hrd hls e2 hc1 hc2 hok hsmall hall hpos
  go_enter Try.func21, Try.ntmps21
  go_wp2_with (at_builtin; refine app_ints rfl (.tmp 9) (.tmp 10) rfl w.heap.size _ [] pos rfl (owns_lit _ _ [] (by simp) 0 _ rfl (by simp) (Nat.le_refl _) _ rfl (by simp)) _ _ _ _ rfl (HP.out _ (below_alloc _ _)) (by simp; omega) (by simp) ?_; intro v1 w1 hown1 hb1 _)
  have ho1 : Owns w1 w.heap.size pos v1 := by simpa using hown1
  have HI1 := hid (ho1.ints (S := Lt w1.heap.size) (fun _ _ h => h))
  have HB1 : Hid (Below w.heap.size w w1) := (below_alloc _ _).trans hb1
  clear hown1 hb1 ho1
  go_loopw [7, 8] (fun v i wr => Below w.heap.size w wr ∧ ∃ (k : Nat) (q : List Int), k ≤ ops.length ∧ i = .int .i64 k ∧ IntsR wr (Lt wr.heap.size) q v ∧ refMapAllS (ops.drop k) q after = refMapAllS ops pos after ∧ q.length ≤ 20000 + 64 * k ∧ (ops ≠ [] → ∀ x ∈ q, Bd (1099511627776 + 8796093022208 * k) x)) (fun _ i _ => ops.length - (intOf i).toNat)
  case atStart => exact ⟨HB1.out, 0, pos, Nat.zero_le _, rfl, HI1.out, rfl, by omega, fun hn x hx => ⟨by have := (HS.out hn x hx).1; omega, by have := (HS.out hn x hx).2; omega⟩⟩
  case round =>
    obtain ⟨hb, k, q, hk, rfl, hq, hrest, hql, hqb⟩ := hrel
    obtain ⟨Aq, cq, rfl⟩ := hq.form
    by_cases hlt : k < ops.length
    · have hqb := hqb (by intro h; rw [h] at hlt; simp at hlt)
      obtain ⟨g, o, Ar, An, cr, cn, rfl, hg, c0, c1, c2, c3, c4, c5, c6, c7, hrow, hnod, _, _, _⟩ := ops_at (H.out.1.keep (Same.of_below hb (Nat.le_refl _)) (Lt.mono hb.size)) (H.out.2.keep (Same.of_below hb (Nat.le_refl _)) (Lt.mono hb.size)) hlt
      have hok1 := HOK.out ops[k] (List.getElem_mem _)
      have hnext := refMapAllS_drop hlt q after
      have hge : ops.getD k ⟨0, [], 0, 0, [], 0, ⟨#[]⟩, ⟨#[]⟩⟩ = ops[k] := by rw [List.getD_eq_getElem?_getD, List.getElem?_eq_getElem hlt]; rfl
      have hbd := HA.out k q hlt hrest hql hqb
      rw [hge] at hbd
      have HM : Hid (Calls Try.prog 23 #[.agg (opC ops[k] (.slice Ar ops[k].row.length cr) (.slice An ops[k].nodes.length cn)), .slice Aq q.length cq, .bool after] wr (IntsPost wr (refMapS ops[k] q after))) :=
        refmap_any ops[k] q after Ar An Aq cr cn cq wr hok1 hrow hq (by omega) (fun x hx => ⟨by have := (hqb x hx).1; omega, by have := (hqb x hx).2; omega⟩)
      have HR : Hid (refMapAllS (ops.drop (k + 1)) (refMapS ops[k] q after) after = refMapAllS ops pos after) := hnext.symm.trans hrest
      have HL := hid hbd
      have HB := hid hb
      generalize refMapS ops[k] q after = q' at *
      generalize hopk : ops[k] = op at *
      obtain ⟨kind, row, at_, n, nodes, slot, old, text⟩ := op
      simp only [opC] at c0 c1 c2 c3 c4 c5 c6 c7 HM
      clear hrow hnod hb hq hrest hqb hok1 hnext hbd hopk hg hge
      go_wp2_with fail
      with_reducible refine HM.out.mono ?_
      rintro e w2 ⟨v2, rfl, hi2, hb2⟩
      have HI2 := hid hi2
      have HB2 : Hid (Below w.heap.size w w2) := HB.out.trans (hb2.mono HB.out.size)
      clear hi2 hb2
      go_wp2_with fail
      go_roundw
      case rel => exact ⟨HB2.out, k + 1, q', by omega, by go_num, HI2.out, HR.out, HL.out.1, fun _ => HL.out.2⟩
      case measure => simp [intOf]; omega
    · have HR : Hid (q = refMapAllS ops pos after) := by show _ = _; rw [← hrest, List.drop_of_length_le (by omega)]; rfl
      have HQ := hid hq
      have HB := hid hb
      clear hq hrest hqb hb
      go_wp2_with fail
      go_ret
      rw [← HR.out]
      exact ⟨_, rfl, HQ.out, HB.out⟩
end Go.Proofs.Yteckkamlaibjbaa
