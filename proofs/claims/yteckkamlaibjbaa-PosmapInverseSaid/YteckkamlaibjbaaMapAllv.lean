/- posmap.MapAll. -/
import Derived.Test.YteckkamlaibjbaaMapv
import Derived.Test.YteckkamlaibjbaaGO
set_option linter.unusedVariables false
set_option linter.unusedSimpArgs false
namespace Go.Proofs.Yteckkamlaibjbaa
open Go.RowKit

/-- What a list of operations asks so that every image on the way has bounded numbers. -/
def OpsOk (ops : List OpD) : Prop := ∀ op ∈ ops, op.Ok ∧ (∀ x ∈ op.row, Bd 1099511627776 x) ∧ op.row.length ≤ 60

def mapAllS : List OpD → List Int → Bool → List Int
  | [], pos, _ => pos
  | op :: ops, pos, after => mapAllS ops (mapS op pos after) after

theorem Bd.mono {M N x : Int} (h : Bd M x) (hMN : M ≤ N) : Bd N x := ⟨by have := h.1; omega, by have := h.2; omega⟩

/-- An image: no number grows by more than 2^43, no list by more than 63 numbers. -/
theorem mapS_bd (op : OpD) (pos : List Int) (after : Bool) (M : Int) (hop : op.Ok) (hrow : ∀ x ∈ op.row, Bd 1099511627776 x) (hM : 1099511627776 ≤ M) (hb : ∀ x ∈ pos, Bd M x) : ∀ x ∈ mapS op pos after, Bd (M + 8796093022208) x := by
  unfold mapS
  split
  rotate_left
  · intro x hx; exact (hb x hx).mono (by omega)
  rename_i hw
  obtain ⟨h1, h2, h3⟩ := within_iff.1 hw
  have hp : (placeOf op pos).op = op ∧ (placeOf op pos).k = op.nodes.length ∧ Bd M (placeOf op pos).index ∧ Bd M (placeOf op pos).slot ∧ (∀ x ∈ (placeOf op pos).rest, Bd M x) := by
    have h0 : Bd M (0 : Int) := ⟨by omega, by omega⟩
    have hg : ∀ k, Bd M (pos.getD k 0) := fun k => getD_bd (by omega) hb k
    unfold placeOf
    split
    · exact ⟨rfl, rfl, hg _, hg _, fun x hx => hb x (List.mem_of_mem_drop hx)⟩
    · exact ⟨rfl, rfl, hg _, h0, by simp⟩
  obtain ⟨e1, e2, hi, hs, hr⟩ := hp
  have hbeh : ∀ l : List Int, (∀ x ∈ l, Bd (M + 8796093022208) x) → ∀ x ∈ behindS (placeOf op pos) l, Bd (M + 8796093022208) x := by
    intro l hl x hx
    unfold behindS at hx
    split at hx
    · simp only [List.mem_append, List.mem_singleton] at hx
      rcases hx with (hx | hx) | hx
      · exact hl x hx
      · subst hx; exact hs.mono (by omega)
      · exact (hr x hx).mono (by omega)
    · exact hl x hx
  have h0 : Bd M (0 : Int) := ⟨by omega, by omega⟩
  have hhd : Bd M ((placeOf op pos).rest.headD 0) := by
    cases h : (placeOf op pos).rest with
    | nil => exact h0
    | cons a l => exact hr a (by rw [h]; simp)
  have htl : ∀ x ∈ (placeOf op pos).rest.tail, Bd M x := fun x hx => hr x (List.mem_of_mem_tail hx)
  have ha := hop.at_
  have hn := hop.n
  have hsl := hop.slot
  have hk := hop.nodes
  unfold Bd at ha hn hsl hi hs hhd
  have key : ∀ x ∈ (imageS (placeOf op pos) after).1, Bd (M + 8796093022208) x := by
    unfold imageS insertS removeS wrapS unwrapS
    rw [e1, e2]
    repeat' split
    all_goals first
      | (refine hbeh _ ?_; intro x hx; simp only [List.mem_cons, List.not_mem_nil, or_false] at hx; unfold Bd; omega)
      | (intro x hx; simp only [List.mem_cons, List.not_mem_nil, or_false] at hx; unfold Bd; omega)
      | (intro x hx; rcases List.mem_cons.1 hx with hx | hx <;> first | exact (htl x hx).mono (by omega) | (subst hx; unfold Bd; omega))
  intro x hx
  rcases List.mem_append.1 hx with hx | hx
  · exact (hrow x hx).mono (by omega)
  · exact key x hx

theorem mapS_len (op : OpD) (pos : List Int) (after : Bool) (hrow : op.row.length ≤ 60) : (mapS op pos after).length ≤ pos.length + 64 := by
  unfold mapS
  split
  rotate_left
  · omega
  rename_i hw
  obtain ⟨h1, h2, h3⟩ := within_iff.1 hw
  have hr : (placeOf op pos).rest.length ≤ pos.length := by unfold placeOf; split <;> simp
  have hb : ∀ l : List Int, l.length ≤ 3 → (behindS (placeOf op pos) l).length ≤ pos.length + 4 := by
    intro l hl
    unfold behindS
    split
    · simp; omega
    · omega
  rw [List.length_append]
  have : (imageS (placeOf op pos) after).1.length ≤ pos.length + 4 := by
    unfold imageS insertS removeS wrapS unwrapS
    repeat' split
    all_goals first | (apply hb; simp; done) | (simp; done) | (simp; omega)
  omega

theorem mapAllS_drop {ops : List OpD} {k : Nat} (h : k < ops.length) (pos : List Int) (after : Bool) : mapAllS (ops.drop k) pos after = mapAllS (ops.drop (k + 1)) (mapS ops[k] pos after) after := by
  rw [List.drop_eq_getElem_cons h]; rfl

set_option maxHeartbeats 2000000 in
theorem mapAll_any (ops : List OpD) (pos : List Int) (after : Bool) (Ao Ap : Option Addr) (co cp : Nat) (w : World) (hok : OpsOk ops) (hol : ops.length ≤ 1000) (ho : SliceR opE w (Lt w.heap.size) ops (.slice Ao ops.length co)) (hpos : IntsR w (Lt w.heap.size) pos (.slice Ap pos.length cp)) (hpl : pos.length ≤ 20000)
    (hsmall : ops ≠ [] → ∀ x ∈ pos, Bd 1099511627776 x) :
    Calls Try.prog 20 #[.slice Ao ops.length co, .slice Ap pos.length cp, .bool after] w (IntsPost w (mapAllS ops pos after)) := by
  have HC := hid (clone_any pos w _ hpos (by omega))
  obtain ⟨A, cap, rs, e, hc1, hc2, hrd, hls⟩ := ho
  injection e with e1 e2 e3
  subst e1 e3
  have H : Hid (Reads w (Lt w.heap.size) Ao rs ∧ ListR opE w (Lt w.heap.size) ops rs) := ⟨hrd, hls⟩
  have HOK := hid hok
  have HS := hid hsmall
  clear hrd hls e2 hc1 hc2 hok hsmall hpos
  go_enter Try.func20, Try.ntmps20
  go_wp2_with fail
  with_reducible refine HC.out.mono ?_
  rintro e w1 ⟨v1, rfl, hown1, hb1⟩
  have HI1 := hid (hown1.ints (S := Lt w1.heap.size) (fun _ _ h => h))
  have HB1 := hid hb1
  clear hown1 hb1 HC
  go_wp2_with fail
  go_loopw [7, 14] (fun v i wr => Below w.heap.size w wr ∧ ∃ (k : Nat) (q : List Int), k ≤ ops.length ∧ i = .int .i64 k ∧ IntsR wr (Lt wr.heap.size) q v ∧ mapAllS (ops.drop k) q after = mapAllS ops pos after ∧ q.length ≤ 20000 + 64 * k ∧ (ops ≠ [] → ∀ x ∈ q, Bd (1099511627776 + 8796093022208 * k) x)) (fun _ i _ => ops.length - (intOf i).toNat)
  case atStart => exact ⟨HB1.out, 0, pos, Nat.zero_le _, rfl, HI1.out, rfl, by omega, fun hn x hx => (HS.out hn x hx).mono (by omega)⟩
  case round =>
    obtain ⟨hb, k, q, hk, rfl, hq, hrest, hql, hqb⟩ := hrel
    obtain ⟨Aq, cq, rfl⟩ := hq.form
    by_cases hlt : k < ops.length
    · have hqb := hqb (by intro h; rw [h] at hlt; simp at hlt)
      obtain ⟨g, o, Ar, An, cr, cn, rfl, hg, c0, c1, c2, c3, c4, c5, c6, c7, hrow, hnod, _, _, _⟩ := ops_at (H.out.1.keep (Same.of_below hb (Nat.le_refl _)) (Lt.mono hb.size)) (H.out.2.keep (Same.of_below hb (Nat.le_refl _)) (Lt.mono hb.size)) hlt
      obtain ⟨hok1, hok2, hok3⟩ := HOK.out ops[k] (List.getElem_mem _)
      have hnext := mapAllS_drop hlt q after
      have hlen := mapS_len ops[k] q after hok3
      have hbd := mapS_bd ops[k] q after _ hok1 hok2 (by omega) hqb
      have HM : Hid (∀ o1, Calls Try.prog 14 #[.agg (opC ops[k] (.slice Ar ops[k].row.length cr) (.slice An ops[k].nodes.length cn)), .slice Aq q.length cq, .bool after] (wr.alloc o1) (IntsPost (wr.alloc o1) (mapS ops[k] q after))) :=
        fun o1 => map_any ops[k] q after Ar An Aq cr cn cq (wr.alloc o1) hok1 (hrow.alloc o1) (hq.alloc o1) (by omega) (fun x hx => (hqb x hx).mono (by omega))
      have HR : Hid (mapAllS (ops.drop (k + 1)) (mapS ops[k] q after) after = mapAllS ops pos after) := hnext.symm.trans hrest
      have HL : Hid ((mapS ops[k] q after).length ≤ 20000 + 64 * (k + 1) ∧ ∀ x ∈ mapS ops[k] q after, Bd (1099511627776 + 8796093022208 * (k + 1 : Nat)) x) := ⟨by omega, fun x hx => (hbd x hx).mono (by omega)⟩
      have HB := hid hb
      generalize mapS ops[k] q after = q' at *
      generalize hopk : ops[k] = op at *
      obtain ⟨kind, row, at_, n, nodes, slot, old, text⟩ := op
      simp only [opC] at c0 c1 c2 c3 c4 c5 c6 c7 HM
      clear hrow hnod hb hq hrest hqb hok1 hok2 hok3 hnext hlen hbd hopk hg
      go_wp2_with fail
      refine (HM.out _).mono ?_
      rintro e w2 ⟨v2, rfl, hi2, hb2⟩
      have HI2 := hid hi2
      have HB2 : Hid (Below w.heap.size w w2) := (HB.out.trans ((below_alloc _ _).mono HB.out.size)).trans (hb2.mono (by have := HB.out.size; simp; omega))
      clear hi2 hb2
      go_wp2_with fail
      go_roundw
      case rel => exact ⟨HB2.out, k + 1, q', by omega, by go_num, HI2.out, HR.out, HL.out.1, fun _ => HL.out.2⟩
      case measure => simp [intOf]; omega
    · have HR : Hid (q = mapAllS ops pos after) := by show _ = _; rw [← hrest, List.drop_of_length_le (by omega)]; rfl
      have HQ := hid hq
      have HB := hid hb
      clear hq hrest hqb hb
      go_wp2_with fail
      go_ret
      rw [← HR.out]
      exact ⟨_, rfl, HQ.out, HB.out⟩
end Go.Proofs.Yteckkamlaibjbaa
