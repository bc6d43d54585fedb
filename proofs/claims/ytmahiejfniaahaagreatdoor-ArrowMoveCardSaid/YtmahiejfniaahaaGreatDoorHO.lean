/- Texts put together: Pos8, RndR. -/
import Derived.Test.YtmahiejfniaahaaGreatDoorGD
import Derived.RangeFuncCalls
import Derived.OrdersHeld
import Derived.OrdersIn
import Derived.Deep.RegionHeld3
import Derived.Test.YtmahiejfniaahaaGreatDoorGK
set_option linter.unusedVariables false
set_option linter.unusedSimpArgs false
set_option maxRecDepth 100000
namespace Go.Proofs.YtmahiejfniaahaaGreatDoor
open Go Go.RowKit Go.Shelf
attribute [local go_sem] Oper.semAt_some
theorem app_rowsIn {F : Fence} {n : Nat} {w : World} {ops : Array Oper} {rest : List Oper} {o : Oper} {a : Act} {Q : Exit → Act → World → Prop} (hgd : o.guard = none) (s x : Operand)
    (ho : o.op = .call { callee := .builtin .append, args := #[s, x], argTypes := #[70, 70] })
    (b : Nat) (v : Value) (xss yss : List (List Int)) (hs : a.eval s = v) (hown : OwnRows w b xss v) (A : Option Addr) (m c : Nat) (hx : a.eval x = .slice A m c) (hr : RowsR w (FreshIn b w v) yss (.slice A m c))
    (hbound : xss.length + yss.length ≤ 1000000000) (hb : b ≤ w.heap.size)
    (h : ∀ v' w', OwnRows w' b (xss ++ yss) v' → w.grownBy w' v.ownBlock → (v'.ownBlock = v.ownBlock ∨ v'.ownBlock = some w.heap.size) → wpListIn F n Tryz.prog ops Q rest (a.put o.dst v') w') : wpListIn F n Tryz.prog ops Q (o :: rest) a w := by
  obtain ⟨i0, hi0, hz0, hz1, hz2⟩ := info_parts intsInfo
  obtain ⟨A', cap', rs, e, h1, h2, hrd, hls⟩ := hr
  injection e with e1 e2 e3
  subst e1 e2 e3
  obtain ⟨cs, ho1, ho2⟩ := hown
  have hl := hls.len
  obtain ⟨v', w', hrun, r1, r2, r3⟩ := run_append_any (P := Tryz.prog) w b 70 o.type 26 i0 _ 1 24 Tryz.underlying70 hi0 hz0 hz1 hz2 rfl (by omega) v _ _ ho1 _ A _ c rs hl hrd hls.one (by simp only [maxLen]; omega) (by omega) hb
  refine wpListIn_plain hgd fun K hK' => ?_
  unfold Oper.wpIn
  refine ⟨?_, ?_⟩
  · simp [Oper.about, ho, resolve, Target.leads, Sem.run_pure]
  · rw [Oper.semAt_plain F _ _ (by rw [ho]; intro c hc'; cases hc')]
    simp [execOp, ho, resolve, invoke, builtin, hs, hx, hrun, Result.andThen]
    exact hK' _ _ (h v' w' (rows_grown (A := A) (m := 0) (c := 0) ho1 ho2 hls r1 r2 r3) r2 r3)
theorem rows_mono {w w' : World} {S S' : Nat → Prop} {xss : List (List Int)} {cs : List Value} (h : ListR (sliceE intE) w S xss cs) (hk : ∀ a u, w.cell? a = some u → w'.cell? a = some u) (hS : ∀ k, S k → S' k) : ListR (sliceE intE) w' S' xss cs := by
  induction xss generalizing cs with
  | nil => exact h
  | cons x xs ih =>
    obtain ⟨c, r, rfl, ⟨v, rfl, hv⟩, hr⟩ := h
    exact ⟨[v], r, rfl, ⟨v, rfl, ints_mono hv hk hS⟩, ih hr⟩
theorem OwnRows.own {w w' : World} {b : Nat} {xss : List (List Int)} {v : Value} {row : Option Nat} (h : OwnRows w b xss v) (hg : w.grownBy w' row) (hr : ∀ r, row = some r → ∃ o : Obj, w.heap[r]? = some o ∧ o.isCells = false) : OwnRows w' b xss v := by
  obtain ⟨cs, h1, h2⟩ := h
  refine ⟨cs, h1.kept hg ?_, rows_mono h2 (fun a u hu => cell_kept hu hg hr) (fun k hk => ⟨hk.1, Nat.lt_of_lt_of_le hk.2.1 hg.size, hk.2.2⟩)⟩
  cases hv : v.ownBlock with
  | none => exact .inl rfl
  | some g =>
    right
    intro e
    obtain ⟨o, ho, hc⟩ := hr g e.symm
    rcases h1.2 with ⟨rfl, _⟩ | ⟨g', cap, cur, rfl, _, hgg, _⟩
    · simp [Value.ownBlock] at hv
    · simp [Value.ownBlock] at hv
      subst hv
      rw [hgg] at ho
      cases ho
      cases hc
theorem own_form {w : World} {b e size n : Nat} {v : Value} {cs : List Value} (h : w.ownsRow b e size v n cs) {k : Nat} (hk : v.ownBlock = some k) : ∃ c, v = .slice (some ⟨k, 0, none⟩) n c := by
  rcases h.2 with ⟨rfl, _⟩ | ⟨g', cap, cur, rfl, _, hgg, _⟩
  · simp [Value.ownBlock] at hk
  · simp [Value.ownBlock] at hk
    subst hk
    exact ⟨_, rfl⟩
def VA (h : Nat) (W : World) (k : Nat) : Prop := (h ≤ k ∧ k < h + 3) ∨ ∃ n c, W.cell? ⟨h, 0, none⟩ = some (.slice (some ⟨k, 0, none⟩) n c)
def AInv (h : Nat) (w : World) (pre : List PosV) (W : World) : Prop := ∃ v, (W.cell? ⟨h, 0, none⟩ = some v ∧ W.frozen? ⟨h, 0, none⟩ = false) ∧ OwnRows W (h + 1) (pre.map Prod.fst) v
theorem ainv_own (B h : Nat) (w : World) : OwnFrom B (AInv h w) := fun s A C row ⟨v, ⟨h1, h2⟩, h3⟩ hg hr =>
  ⟨v, ⟨cell_kept h1 hg (fun r e => (hr r e).2), (frozen_kept h1 hg (fun r e => (hr r e).2)).trans h2⟩, h3.own hg (fun r e => (hr r e).2)⟩
theorem ainv_gd {h : Nat} {w : World} {pre : List PosV} {W : World} (hi : AInv h w pre W) (hs : h + 3 ≤ W.heap.size) : Gdv (VA h) W := by
  obtain ⟨v, ⟨h1, h2⟩, h3⟩ := hi
  intro W' hb k hk
  rcases hk with hk | ⟨n, c, hk⟩
  · exact ⟨.inl hk, by omega⟩
  · rw [hb.cell (p := ⟨h, 0, none⟩) (World.block_lt_of_cell? W _ h1)] at hk
    refine ⟨.inr ⟨n, c, hk⟩, ?_⟩
    rw [h1] at hk
    cases hk
    exact (h3.own_lt k (by simp [Value.ownBlock])).2
theorem va_put {h : Nat} (W : World) (l : Nat) (o o' : Obj) (h1 : h + 1 ≤ l) (h2 : l < h + 3) (ho : W.heap[l]? = some o) (hc : o.isCells = false) : But (VA h) W (W.putObj l o') := by
  refine But.of_grownBy (grownBy_putObj' W l o') (fun k e _ => by cases e; exact .inl ⟨by omega, by omega⟩) (fun k hk hv => ?_)
  rcases hv with hv | ⟨n, c, hv⟩
  · exact .inl hv
  · exact .inr ⟨n, c, (World.cell?_of_block (World.putObj_heap_other (k := h) (by omega))).symm.trans hv⟩
theorem a_round {h : Nat} {w W w2 : World} {pre : List PosV} {xl : List Int} {xv v v' : Value} (hi : (W.cell? ⟨h, 0, none⟩ = some v ∧ W.frozen? ⟨h, 0, none⟩ = false) ∧ OwnRows W (h + 1) (pre.map Prod.fst) v) (hb : Below h w W)
    (ho : OwnRows w2 (h + 1) (pre.map Prod.fst ++ [xl]) v') (hg : (W.alloc (.cells #[xv] 26)).grownBy w2 v.ownBlock) (hv : v'.ownBlock = v.ownBlock ∨ v'.ownBlock = some (W.alloc (.cells #[xv] 26)).heap.size) :
    KeepsOthers W (w2.setCell ⟨h, 0, none⟩ v') ∧ But (VA h) W (w2.setCell ⟨h, 0, none⟩ v') ∧ AInv h w (pre ++ [(xl, xv)]) (w2.setCell ⟨h, 0, none⟩ v') ∧ Below h w (w2.setCell ⟨h, 0, none⟩ v') := by
  obtain ⟨⟨c0, f0⟩, hr⟩ := hi
  have hlt : h < W.heap.size := World.block_lt_of_cell? W _ c0
  have hs : (W.alloc (.cells #[xv] 26)).heap.size = W.heap.size + 1 := by simp
  have hnr : some h ≠ v.ownBlock := fun e => by have := (hr.own_lt h e.symm).1; omega
  have c1 : (W.alloc (.cells #[xv] 26)).cell? ⟨h, 0, none⟩ = some v := cell_al c0 _
  have c2 : w2.cell? ⟨h, 0, none⟩ = some v := hg.cell c1 hnr
  have f2 : w2.frozen? ⟨h, 0, none⟩ = false := (World.frozen?_of_block (hg.block h (by omega) hnr)).trans (frozen_al ⟨c0, f0⟩ _).2
  have hrow : ∀ k, v.ownBlock = some k → k < W.heap.size := fun k hk => (hr.own_lt k hk).2
  refine ⟨((KeepsOthers.alloc W _).trans (KeepsOthers.of_grownBy hg ?_)).trans (KeepsOthers.setCell _ _ _), ⟨hg.os, hg.tape, hg.output, ?_, ?_, ?_⟩, ⟨v', ⟨World.cell?_setCell_same' _ _ _ (by rw [c2]; rfl), by rw [World.frozen?_setCell]; exact f2⟩, ?_⟩, ?_⟩
  · intro j o hj hoj
    obtain ⟨cs, h1, _⟩ := hr
    rcases h1.2 with ⟨rfl, _⟩ | ⟨g', cap, cur, rfl, _, hgg, _⟩
    · simp [Value.ownBlock] at hj
    · simp [Value.ownBlock] at hj
      subst hj
      rw [Below.heap_alloc _ _ _ (Array.getElem?_eq_some_iff.1 hgg).1, hgg] at hoj
      cases hoj; rfl
  · have := hg.size; simp [World.setCell] at this ⊢; omega
  · intro k hk hnv
    have hkh : k ≠ h := fun e => hnv (.inl ⟨by omega, by omega⟩)
    rw [Below.heap_setCell _ _ _ _ hkh, hg.block k (by omega) ?_, Below.heap_alloc _ _ _ hk]
    intro e
    obtain ⟨cs, h1, _⟩ := hr
    obtain ⟨c, rfl⟩ := own_form h1 e.symm
    exact hnv (.inr ⟨_, c, c0⟩)
  · intro k hk hv3
    rcases hv3 with hv3 | ⟨n, c, hv3⟩
    · exact .inl hv3
    · rw [World.cell?_setCell_same' _ _ _ (by rw [c2]; rfl)] at hv3
      cases hv3
      simp only [Value.ownBlock] at hv
      rcases hv with hv | hv
      · obtain ⟨cs, h1, _⟩ := hr
        obtain ⟨c, rfl⟩ := own_form h1 hv.symm
        exact .inr ⟨_, c, c0⟩
      · injection hv with hv; omega
  · obtain ⟨cs2, ho1, ho2⟩ := ho
    have e : (pre ++ [((xl, xv) : PosV)]).map Prod.fst = pre.map Prod.fst ++ [xl] := by simp
    rw [e]
    exact ⟨cs2, ownsRow_setCell_below ho1 (a := ⟨h, 0, none⟩) (by simp) v', ho2.keep (fun q hq => cell_set_far _ trivial (by have := hq.1; simp; omega)) (fun k hk => ⟨hk.1, by have := hk.2.1; simpa [World.setCell] using this, hk.2.2⟩)⟩
  · exact (hb.trans ((((Below.refl h W).alloc (by omega) _).grown hg (by omega) (fun k e => by have := (hr.own_lt k e).1; omega)))).setCell (p := ⟨h, 0, none⟩) (Nat.le_refl _) _
set_option maxHeartbeats 4000000 in
theorem appendSeq_any (t : Tree) (n0 Bn : Nat) (A : Option Addr) (cap : Nat) (w : World) (hn : n0 ≤ Bn) (hBn : Bn < w.heap.size) (hc : w.cell? ⟨Bn, 3, none⟩ = some (.slice A t.kids.length cap)) (hv : SliceR treeE w (Lt n0) t.kids (.slice A t.kids.length cap)) (hcnt : countS t ≤ 400000) :
    Calls Tryz.prog 111 #[.slice none 0 0, .func (.func 112) #[] #[.pointer (some ⟨Bn, 0, none⟩)]] w fun e w' => ∃ v, e = .returned v ∧ OwnRows w' w.heap.size (allS [] t) v ∧ Below w.heap.size w w' := by
  have hb5 : Below w.heap.size w (w.alloc (.cells #[.slice none 0 0] 70)) := below_allocR _ _
  have hh := World.alloc_heap_new w (.cells #[.slice none 0 0] 70)
  have hz5 : (w.alloc (.cells #[.slice none 0 0] 70)).heap.size = w.heap.size + 1 := by simp
  have hc5 := cell_al hc (.cells #[.slice none 0 0] 70)
  have hv5 := hv.below (hb5.mono (by omega)) (Nat.le_refl _)
  have hI0 : AInv w.heap.size w [] (w.alloc (.cells #[.slice none 0 0] 70)) := by
    refine ⟨.slice none 0 0, ?_, OwnRows.nil _ _⟩
    generalize w.alloc (.cells #[.slice none 0 0] 70) = W at hh ⊢
    constructor <;> simp [World.cell?, World.frozen?, hh]
  have HLE : Hid ((allS [] t).length ≤ 2000000) := allS_le t (by omega)
  refine (callsIn_wide (n := 0)).1 ?_
  refine callsIn_of_wp_marks Tryz.func111 rfl trivial ?_ rfl
  simp only [Tryz.ntmps111, List.size_toArray, List.length_cons, List.length_nil, Nat.reduceAdd, Nat.reduceSub, Array.replicate_succ, Array.replicate_zero, List.push_toArray, List.append_toArray, List.nil_append, List.cons_append]
  clear hc hv hh
  gi_wp2_with fail
  generalize w.alloc (.cells #[.slice none 0 0] 70) = W5 at *
  have HZ5 := hid hz5
  refine wpIn_placesV 5 (VA w.heap.size) t n0 Bn A cap rfl (by omega) (by omega) hc5 ?_ hv5 hcnt (fun W l o o' h1 h2 h3 h4 => va_put W l o o' (by omega) (by omega) h3 h4)
    (fun pre W => AInv w.heap.size w pre W ∧ Below w.heap.size w W) (fun c pre W => False) ?hI ?hGd ?hIx ⟨hI0, hb5⟩ ?assign ?body ?done ?stop
  · intro W k hb hk
    rcases hk with hk | ⟨n, c, hk⟩
    · exact ⟨by omega, by omega⟩
    · exfalso
      obtain ⟨v, ⟨h1, _⟩, h3⟩ := hI0
      rw [hb.cell (p := ⟨w.heap.size, 0, none⟩) (by simp; omega), h1] at hk
      cases hk
      have := h3.own_lt k (by simp [Value.ownBlock])
      omega
  case hI => exact OwnFrom.and (ainv_own _ _ _) (ownFrom_below (Nat.le_refl _) hb5.size)
  case hGd => exact fun s B hs hsz => ainv_gd hs.1 (by omega)
  case hIx => exact fun c => own_pure _ _
  case assign =>
    intro l x W K hK
    gi_wp2
    exact hK
  case body =>
    rintro l pre ⟨xl, xv⟩ W ⟨⟨v, ⟨c0, f0⟩, hr⟩, hb⟩ hx hpre
    obtain ⟨Ax, cx, rfl, hx⟩ := prdV_form hx
    dsimp only
    have hlt : w.heap.size < W.heap.size := World.block_lt_of_cell? W _ c0
    have HPL : Hid ((pre.map Prod.fst).length + [xl].length ≤ 1000000000) := by
      have h1 := hpre.length_le
      have h2 := HLE.out
      show _ ≤ _
      simp at h1 ⊢; omega
    have hba : Below W.heap.size W (W.alloc (.cells #[.slice Ax xl.length cx] 26)) := below_allocR _ _
    have HROW : Hid (RowsR (W.alloc (.cells #[.slice Ax xl.length cx] 26)) (FreshIn (w.heap.size + 1) (W.alloc (.cells #[.slice Ax xl.length cx] 26)) v) [xl] (.slice (some ⟨W.heap.size, 0, none⟩) 1 1)) := by
      have hnv : ∀ k, v.ownBlock = some k → VA w.heap.size W k := fun k hk => by
        obtain ⟨cs, h1, _⟩ := hr
        obtain ⟨c, rfl⟩ := own_form h1 hk
        exact .inr ⟨_, c, c0⟩
      have hown : ∀ k, v.ownBlock = some k → k < W.heap.size := fun k hk => (hr.own_lt k hk).2
      refine ⟨_, _, [.slice Ax xl.length cx], rfl, Nat.le_refl _, by simp [maxLen], fun _ => ⟨W.heap.size, 0, rfl, ⟨by omega, by simp, fun e => by have := hown _ e.symm; omega⟩, fun j x hx => ?_⟩, ListR.single (E := sliceE intE) ⟨_, rfl, hx.keep (fun q hq => hba.cell hq.2.1) (fun k hk => ⟨by have := HZ5.out; omega, by have := hk.2.1; simp; omega, fun e => hk.2.2 (hnv k e.symm)⟩)⟩⟩
      rw [Nat.zero_add, World.cell?_alloc_new]
      simpa using hx
    have HOW : Hid (OwnRows (W.alloc (.cells #[.slice Ax xl.length cx] 26)) (w.heap.size + 1) (pre.map Prod.fst) v) := hr.below hba
    have HRND : Hid (∀ w2 v', OwnRows w2 (w.heap.size + 1) (pre.map Prod.fst ++ [xl]) v' → (W.alloc (.cells #[.slice Ax xl.length cx] 26)).grownBy w2 v.ownBlock → (v'.ownBlock = v.ownBlock ∨ v'.ownBlock = some (W.alloc (.cells #[.slice Ax xl.length cx] 26)).heap.size) →
        (w2.cell? ⟨w.heap.size, 0, none⟩ = some v ∧ w2.frozen? ⟨w.heap.size, 0, none⟩ = false) ∧ (KeepsOthers W (w2.setCell ⟨w.heap.size, 0, none⟩ v') ∧ But (VA w.heap.size) W (w2.setCell ⟨w.heap.size, 0, none⟩ v') ∧ AInv w.heap.size w (pre ++ [(xl, .slice Ax xl.length cx)]) (w2.setCell ⟨w.heap.size, 0, none⟩ v') ∧ Below w.heap.size w (w2.setCell ⟨w.heap.size, 0, none⟩ v'))) := fun w2 v' h1 h2 h3 => by
      have hnr : some w.heap.size ≠ v.ownBlock := fun e => by have := (hr.own_lt _ e.symm).1; omega
      exact ⟨⟨h2.cell (cell_al c0 _) hnr, (World.frozen?_of_block (h2.block w.heap.size (by simp; omega) hnr)).trans (frozen_al ⟨c0, f0⟩ _).2⟩, a_round ⟨⟨c0, f0⟩, hr⟩ hb h1 h2 h3⟩
    have HF : Hid (∃ z, z = v) := ⟨_, rfl⟩
    clear hr hb hx hpre hba
    gi_wp2_with (gi_at_builtin; refine app_rowsIn rfl _ _ rfl (w.heap.size + 1) v (pre.map Prod.fst) [xl] rfl HOW.out _ _ _ rfl HROW.out HPL.out (by simp; omega) ?_; intro v' w2 hown' hgrow hob; obtain ⟨⟨cc, ff⟩, HH⟩ := HRND.out w2 v' hown' hgrow hob; obtain ⟨A9, c9, rfl⟩ := hown'.rows.form; clear hown' hgrow hob)
    rw [show (List.map Prod.fst pre ++ [xl]).length = pre.length + 1 by simp] at HH
    exact ⟨HH.1, HH.2.1, HH.2.2.1, HH.2.2.2⟩
  case done =>
    rintro D xs W hD hxs ⟨⟨v, ⟨c0, f0⟩, hr⟩, hb⟩ hK
    rw [hxs] at hr
    have HR : Hid (OwnRows (W.putObj D (.deferred none)) w.heap.size (allS [] t) v) := (hr.own (grownBy_putObj' W D (.deferred none)) (fun r e => by cases e; exact ⟨_, hK, rfl⟩)).base (Nat.le_succ _)
    have HB := hid (hb.trans (belowK_b (w := w) (Nat.le_refl _) W D _ (.deferred none) (by omega) hK rfl rfl))
    obtain ⟨A9, c9, rfl⟩ := hr.rows.form
    clear hr hb hxs
    gi_wp2
    refine ⟨by simp, .inl ⟨_, _, rfl, run_takeDeferred hK, ?_⟩⟩
    refine ⟨_, results_tmp rfl _ _ _, ?_⟩
    exact ⟨_, rfl, HR.out, HB.out⟩
  case stop =>
    rintro D c pre W hD hpre h hK
    exact h.elim
theorem collect_any (t : Tree) (n0 Bn : Nat) (A : Option Addr) (cap : Nat) (w : World) (hn : n0 ≤ Bn) (hBn : Bn < w.heap.size) (hc : w.cell? ⟨Bn, 3, none⟩ = some (.slice A t.kids.length cap)) (hv : SliceR treeE w (Lt n0) t.kids (.slice A t.kids.length cap)) (hcnt : countS t ≤ 400000) :
    Calls Tryz.prog 87 #[.func (.func 112) #[] #[.pointer (some ⟨Bn, 0, none⟩)]] w fun e w' => ∃ v, e = .returned v ∧ OwnRows w' w.heap.size (allS [] t) v ∧ Below w.heap.size w w' := by
  have HC := hid (appendSeq_any t n0 Bn A cap w hn hBn hc hv hcnt)
  clear hc hv
  go_enter Tryz.func87, Tryz.ntmps87
  go_wp2_with fail
  refine HC.out.mono ?_
  rintro e w1 ⟨v, rfl, hr, hb⟩
  obtain ⟨A9, c9, rfl⟩ := hr.rows.form
  have HR := hid hr
  have HB := hid hb
  clear hr hb
  go_wp2_with fail
  go_ret
  exact ⟨_, rfl, HR.out, HB.out⟩
set_option maxHeartbeats 2000000 in
theorem pall_any (t : Tree) (A : Option Addr) (cap : Nat) (w : World) (hv : SliceR treeE w (Lt w.heap.size) t.kids (.slice A t.kids.length cap)) (htx : t.text.size ≤ maxLen) :
    Calls Tryz.prog 44 #[.agg #[.int .i64 t.kind, .string t.text, .int .i64 t.cols, .slice A t.kids.length cap]] w (AllRes w (validS t) (allS [] t)) := by
  have HB0 : Hid (Below w.heap.size w (w.alloc (Obj.cells #[.int .i64 t.kind, .string t.text, .int .i64 t.cols, .slice A t.kids.length cap] 24))) := below_allocR _ _
  have C1 := hid (nValid_any t A cap _ (hv.below HB0.out HB0.out.size) htx)
  have HVK : Hid (∀ W, Below w.heap.size w W → SliceR treeE W (Lt w.heap.size) t.kids (.slice A t.kids.length cap)) := fun W h => hv.below h (Nat.le_refl _)
  have KB : Hid (∀ W, Below (w.alloc (Obj.cells #[.int .i64 t.kind, .string t.text, .int .i64 t.cols, .slice A t.kids.length cap] 24)).heap.size (w.alloc (Obj.cells #[.int .i64 t.kind, .string t.text, .int .i64 t.cols, .slice A t.kids.length cap] 24)) W → NBox W w.heap.size t.kind t.cols t.text (.slice A t.kids.length cap)) :=
    fun W hW => (NBox.new w t.kind t.cols t.text _).below hW (by simp)
  have HCO : Hid (∀ W : World, validS t = true → Below w.heap.size w W → Calls Tryz.prog 87 #[.func (.func 112) #[] #[.pointer (some ⟨W.heap.size, 0, none⟩)]] (W.alloc (Obj.cells #[.int .i64 t.kind, .string t.text, .int .i64 t.cols, .slice A t.kids.length cap] 24)) fun e w' => ∃ v, e = .returned v ∧ OwnRows w' w.heap.size (allS [] t) v ∧ Below w.heap.size w w') := fun W hvv hW => by
    have hb := bl_alloc hW (Obj.cells #[.int .i64 t.kind, .string t.text, .int .i64 t.cols, .slice A t.kids.length cap] 24)
    refine (collect_any t w.heap.size W.heap.size A cap (W.alloc (Obj.cells #[.int .i64 t.kind, .string t.text, .int .i64 t.cols, .slice A t.kids.length cap] 24)) hW.size (by simp) (by rw [World.cell?_alloc_new]; rfl) (HVK.out _ hb) (by have := (valid_count hvv).1; omega)).mono ?_
    rintro e w' ⟨v, rfl, hr, hb'⟩
    exact ⟨v, rfl, hr.base hb.size, bl_call hb hb'⟩
  generalize allS [] t = L at *
  generalize validS t = b at *
  obtain ⟨tk, tx, tc, ts⟩ := t
  simp only [Tree.kind, Tree.text, Tree.cols, Tree.kids] at *
  clear hv htx
  cases b
  · go_enter Tryz.func44, Tryz.ntmps44
    go_wp2_with fail
    refine C1.out.mono ?_
    rintro e w1 ⟨rfl, hb1⟩
    have HB1 := hid (bl_call HB0.out hb1)
    clear hb1
    go_wp2_with fail
    go_ret2
    exact ⟨HB1.out, .inl ⟨rfl, rfl⟩⟩
  · go_enter Tryz.func44, Tryz.ntmps44
    go_wp2_with fail
    refine C1.out.mono ?_
    rintro e w1 ⟨rfl, hb1⟩
    have HB1 := hid (bl_call HB0.out hb1)
    obtain ⟨p0, p1, p2, p3⟩ := KB.out w1 hb1
    have HC := hid (HCO.out w1 (by trivial) HB1.out)
    clear hb1 HCO
    go_wp2_with fail
    refine (callsIn_wide.1 (places_any _ ⟨_, _, _, _, rfl⟩ _ 0)).mono ?_
    rintro e w' ⟨rfl, rfl⟩
    go_wp2_with fail
    refine HC.out.mono ?_
    rintro e w2 ⟨v, rfl, hr, hb2⟩
    obtain ⟨A2, c2, rfl⟩ := hr.rows.form
    have HR2 := hid hr
    have HB2 := hid hb2
    clear hr hb2 p0 p1 p2 p3
    go_wp2_with fail
    go_ret2
    exact ⟨HB2.out, .inr ⟨rfl, _, rfl, HR2.out⟩⟩
end Go.Proofs.YtmahiejfniaahaaGreatDoor
set_option linter.unusedVariables false
set_option linter.unusedSimpArgs false
set_option maxRecDepth 100000
namespace Go.Proofs.YtmahiejfniaahaaGreatDoor
open Go Go.RowKit
theorem wpOpIn_of_plain {P : Program} {ops : Array Oper} {Q : Exit → Act → World → Prop} (l n : Nat) (hnd : ∀ (i : Nat) (o : Oper), ops[i]? = some o → ∀ c, o.op ≠ .defer c) (hQ : ∀ a w, ¬ Q .outgrown a w)
    {i : Nat} {K K' : Act → World → Prop} {a : Act} {w : World} (hK : ∀ a w, K a w → K' a w) (h : wpOp P ops Q i K a w) : wpOpIn (Fence.wide.inRound l) n P ops Q i K' a w := by
  unfold wpOp at h
  unfold wpOpIn
  cases ho : ops[i]? with
  | none =>
    simp only [ho] at h ⊢
    exact hK _ _ h
  | some o =>
    simp only [ho] at h ⊢
    by_cases hw : Region.wanted o (yielded ops a.tmps) = true
    · rw [if_pos hw] at h ⊢
      rcases h with h | ⟨_, b, w', h⟩
      · refine ⟨fun _ _ => trivial, ?_⟩
        rw [Oper.semAt_eq _ _ _ (hnd i o ho)]
        unfold Oper.wp at h
        generalize (execOp a.eval o).run P w = r at *
        cases r with
        | ok x w' =>
          cases x <;> simp only [Oper.upon, Oper.uponIn] at h ⊢ <;> first
            | exact hK _ _ h
            | exact ⟨fun h => (by cases h), CallsIn.inRound l (callsIn_wide.2 (Calls.mono h fun e w'' he => by cases e <;> first | exact hK _ _ he | exact he))⟩
            | exact ⟨fun h => (by cases h), fun c cs _ => let ⟨v, w', r, s⟩ := h c cs; ⟨v, w', hK _ _ r, stepsIn_wide.2 s⟩⟩
        | halt x w' => cases x <;> simp only [Oper.upon, Oper.uponIn] at h ⊢ <;> exact h
      · exact absurd h (hQ _ _)
    · rw [if_neg hw] at h ⊢
      exact ⟨fun _ _ => trivial, hK _ _ h⟩
theorem wpAnyIn_of_plain {P : Program} {md : Region.Mode} {ops : Array Oper} {Q : Exit → Act → World → Prop} (l n : Nat) (hnd : ∀ (i : Nat) (o : Oper), ops[i]? = some o → ∀ c, o.op ≠ .defer c) (hQ : ∀ a w, ¬ Q .outgrown a w) :
    ∀ (fuel : Nat) (listed : Array Bool) (a : Act) (w : World), wpAny P md ops Q fuel listed a w → wpAnyIn (Fence.wide.inRound l) n P md ops Q fuel listed a w
  | 0, _, _, _, h => h
  | fuel + 1, _, _, _, h => ⟨h.1, fun i hi => wpOpIn_of_plain l n hnd hQ (fun a w => wpAnyIn_of_plain l n hnd hQ fuel _ a w) (h.2 i hi)⟩
def noDefer (ops : Array Oper) : Bool := ops.all fun o => match o.op with | .defer _ => false | _ => true
theorem noDefer_of {ops : Array Oper} (h : noDefer ops = true) : ∀ (i : Nat) (o : Oper), ops[i]? = some o → ∀ c, o.op ≠ .defer c := fun i o ho c hc => by
  have hm := Array.mem_of_getElem? ho
  have := Array.all_eq_true_iff_forall_mem.1 h o hm
  rw [hc] at this
  cases this
theorem region_round {P : Program} {ops : Array Oper} {Q : Exit → Act → World → Prop} {id l n : Nat} {a : Act} {w : World} {S : World → Prop} (hm : P.follows .mixedOrders = true) (hnd : ∀ (i : Nat) (o : Oper), ops[i]? = some o → ∀ c, o.op ≠ .defer c) (hQ : ∀ a w, ¬ Q .outgrown a w) (hS : S w.drew)
    (h : S w.drew → wpAnyH P .any ops Q S ops.size (Array.replicate ops.size false) a w.drew) : (Code.region id ops true).wpIn (Fence.wide.inRound l) n P Q a w :=
  wpIn_region_any hm (wpAnyIn_of_plain l n hnd hQ _ _ _ _ (wpAny_of_held _ _ _ _ (h hS)))
theorem wpIn_range_box (q : Tmp) {P : Program} {α : Type} {g : Operand} {p : Tmp} {assign body : Code} {Q : Exit → Act → World → Prop} {a : Act} {w : World}
    {gf : Nat} {lb : Array Value} (hg : a.eval g = .func (.func gf) #[] lb) (eg : ∀ args w, (callFunc gf args).run P w = .ok (.enter gf args) w)
    {enc : α → Value} {Rd : α → World → Prop} {Kp : World → World → Prop} {Gd : World → Prop} {S Sp : List α → Prop} (hseq : SeqRd P gf lb enc Rd Kp Gd S Sp w)
    (hKt : ∀ A B C : World, Kp A B → Kp B C → Kp A C)
    (hKb : ∀ (W : World) (l : Nat) (o o' : Obj), w.heap.size ≤ l → l < w.heap.size + 2 → W.heap[l]? = some o → o.isCells = false → Kp W (W.putObj l o'))
    (hRd : ∀ x (W : World) (l : Nat) (o o' : Obj), w.heap.size ≤ l → l < w.heap.size + 2 → W.heap[l]? = some o → o.isCells = false → Rd x W → Rd x (W.putObj l o'))
    (I : List α → World → Prop) (Ix : Code → List α → World → Prop) (hI : OwnFrom w.heap.size I) (hGd : ∀ s A, I s A → w.heap.size + 2 ≤ A.heap.size → Gd A) (hIx : ∀ c, OwnFrom w.heap.size (Ix c)) (h0 : I [] w)
    (obj : α → Obj) (hcells : ∀ x, (obj x).isCells = true) (hKa : ∀ s (W : World) o, I s W → w.heap.size + 2 ≤ W.heap.size → Kp W (W.alloc o)) (hRa : ∀ x (W : World) o, Rd x W → Rd x (W.alloc o))
    (hassign : ∀ (l : Nat) (pre : List α) (x : α) (W : World) (K : Act → World → Prop), Sp (pre ++ [x]) → K { tmps := (a.tmps.setIfInBounds p (enc x)).setIfInBounds q (.pointer (some ⟨W.heap.size, 0, none⟩)), defers := [] } (W.alloc (obj x)) →
      assign.wpIn (Fence.wide.inRound l) 0 P (Exit.then K (fun _ _ _ => False)) { tmps := a.tmps.setIfInBounds p (enc x), defers := [] } W)
    (hbody : ∀ (l : Nat) (pre : List α) (x : α) (gb : Nat) (W : World), I pre W → Rd x W → Sp (pre ++ [x]) → W.heap[gb]? = some (obj x) → w.heap.size + 2 ≤ gb → body.wpIn (Fence.wide.inRound l) 0 P (ownPostK Kp I Ix (pre ++ [x]) W) { tmps := (a.tmps.setIfInBounds p (enc x)).setIfInBounds q (.pointer (some ⟨gb, 0, none⟩)), defers := [] } W)
    (hdone : ∀ (D : Nat) (xs : List α) (W : World), w.heap.size ≤ D → S xs → I xs W → W.heap[D]? = some (.deferred (some [])) → Q .normal { a with defers := { target := .collected D, args := #[] } :: a.defers } W)
    (hstop : ∀ (D : Nat) (c : Code) (pre : List α) (W : World), w.heap.size ≤ D → Sp pre → Ix c pre W → W.heap[D]? = some (.deferred (some [])) → c.wpIn Fence.wide 0 P Q { a with defers := { target := .collected D, args := #[] } :: a.defers } W) :
    (Code.rangeFunc g #[p] assign body).wpIn Fence.wide 0 P Q a w := by
  refine wpIn_rangeFunc fun fn hfn => ?_
  show ∃ l mark w₁ d w₁' f args w₂, (Instr.enterLoop fn a.tmps #[p] assign body none).run P w = _ ∧ _
  obtain ⟨rec, hrec⟩ : ∃ rec : LoopState → Option Code → Loop, rec = fun st pe => { state := st, pending := pe, fn, tmps := a.tmps, params := #[p], assign, body, defers := w.heap.size } := ⟨_, rfl⟩
  obtain ⟨W1, hW1⟩ : ∃ W1, (w.alloc (.deferred (some []))).alloc (.loop (rec .ready none)) = W1 := ⟨_, rfl⟩
  have hl1 : W1.heap[w.heap.size + 1]? = some (.loop (rec .ready none)) := by
    rw [← hW1]; have := World.alloc_heap_new (w.alloc (.deferred (some []))) (.loop (rec .ready none)); rwa [World.size_alloc] at this
  have hd1 : W1.heap[w.heap.size]? = some (.deferred (some [])) := by
    rw [← hW1]; exact (Below.heap_alloc _ _ _ (by simp)).trans (World.alloc_heap_new w _)
  have hi1 : I [] W1 := by rw [← hW1]; exact hI.alloc _ (hI.alloc _ h0)
  have hb1 : Below w.heap.size w W1 := by rw [← hW1]; exact ((Below.refl _ w).alloc (Nat.le_refl _) _).alloc (by simp) _
  have kept : ∀ {A B : World} {k : Nat} {o : Obj}, Below A.heap.size A B → A.heap[k]? = some o → B.heap[k]? = some o := fun hb hk => (hb.block _ (Array.getElem?_eq_some_iff.1 hk).1).trans hk
  refine ⟨w.heap.size + 1, [{ target := .collected w.heap.size, args := #[] }], W1, { target := .fn (.func gf) lb, args := #[.func (.yield (w.heap.size + 1)) #[] #[]] }, W1, gf,
    #[.func (.yield (w.heap.size + 1)) #[] #[]] ++ lb, W1, ?_, ?_, fun _ _ => trivial, ?_, fun h => (by cases h), ?_⟩
  · rw [← hW1, hrec]; exact run_enterLoop_outer _ _ _ _ _
  · simp only [resolve, hg]
    simp [go_sem]
  · simp [invoke, go_sem, eg]
  · refine (hseq (w.heap.size + 1)
      (fun pre W => I pre W ∧ W.heap[w.heap.size + 1]? = some (.loop (rec .ready none)) ∧ W.heap[w.heap.size]? = some (.deferred (some [])))
      (fun pre W => ∃ c, Ix c pre W ∧ W.heap[w.heap.size + 1]? = some (.loop (rec .done (some c))) ∧ W.heap[w.heap.size]? = some (.deferred (some [])))
      W1 hb1 (by rw [← hW1]; simp)
      (fun s A B ⟨h, hl, hd⟩ hb => ⟨OwnFrom.grows hI s A B h hb, kept hb hl, kept hb hd⟩)
      (fun s A B ⟨c, h, hl, hd⟩ hb => ⟨c, OwnFrom.grows (hIx c) s A B h hb, kept hb hl, kept hb hd⟩)
      (fun s A ⟨h, hl, _⟩ => hGd s A h (by have := (Array.getElem?_eq_some_iff.1 hl).1; omega))
      ?_ ⟨hi1, hl1, hd1⟩).mono ?_
    · rintro pre x V ⟨hiV, hlV, hdV⟩ hxV hs
      have hltV : w.heap.size + 1 < V.heap.size := (Array.getElem?_eq_some_iff.1 hlV).1
      have hy := run_yield (P := P) (args := #[enc x]) hlV (by rw [hrec]; rfl)
      rw [hrec] at hy
      have e : (#[p].zip #[enc x]).foldl (fun (t : Array Value) (q : Tmp × Value) => t.setIfInBounds q.1 q.2) a.tmps = a.tmps.setIfInBounds p (enc x) := by simp
      refine ⟨fn, a.tmps.setIfInBounds p (enc x), assign, body, hy.trans (by rw [← e]), roundIn_of_wpIn hfn ?_⟩
      refine hassign _ pre x V _ hs ?_
      -- the box of the round's variable
      obtain ⟨W, hWV⟩ : ∃ W, V.alloc (obj x) = W := ⟨_, rfl⟩
      have hbV : Below V.heap.size V W := by rw [← hWV]; exact (Below.refl _ _).alloc (Nat.le_refl _) _
      have hi : I pre W := OwnFrom.grows hI _ _ _ hiV hbV
      have hl := kept hbV hlV
      have hd := kept hbV hdV
      have hx : Rd x W := by rw [← hWV]; exact hRa x V _ hxV
      have hkV : Kp V W := by rw [← hWV]; exact hKa pre V _ hiV (by omega)
      have hbox : W.heap[V.heap.size]? = some (obj x) := by rw [← hWV]; exact World.alloc_heap_new V _
      have hko : KeepsOthers V W := ⟨hbV.size, fun k o hk _ => kept hbV hk⟩
      have hlt : w.heap.size + 1 < W.heap.size := (Array.getElem?_eq_some_iff.1 hl).1
      have hb := run_beginRound (P := P) hl (by rw [hrec])
      rw [hWV]
      obtain ⟨W2, hW2⟩ : ∃ W2, W.putObj (w.heap.size + 1) (.loop { rec .ready none with state := .busy }) = W2 := ⟨_, rfl⟩
      have hl2 : W2.heap[w.heap.size + 1]? = some (.loop { rec .ready none with state := .busy }) := by rw [← hW2]; exact World.putObj_heap_same hlt
      have hd2 : W2.heap[w.heap.size]? = some (.deferred (some [])) := by rw [← hW2]; exact (World.putObj_heap_other (by omega)).trans hd
      have hbox2 : W2.heap[V.heap.size]? = some (obj x) := by rw [← hW2]; exact (World.putObj_heap_other (by omega)).trans hbox
      have hk2 : Kp W W2 := by rw [← hW2]; exact hKb _ _ _ _ (by omega) (by omega) hl rfl
      have hi2 : I pre W2 := by rw [← hW2]; exact hI.putObj _ hi (by omega) hl rfl
      have hx2 : Rd x W2 := by rw [← hW2]; exact hRd _ _ _ _ _ (by omega) (by omega) hl rfl hx
      have fin : ∀ (jump : Option Code) (W3 : World), KeepsOthers W2 W3 → ∃ W4, (Instr.endRound (w.heap.size + 1) jump).run P W3 = .ok (.bool jump.isNone) W4 ∧
          W4.heap[w.heap.size + 1]? = some (.loop (rec (if jump.isNone then .ready else .done) jump)) ∧ W4.heap[w.heap.size]? = some (.deferred (some [])) ∧
          (∀ c, Ix c (pre ++ [x]) W3 → Ix c (pre ++ [x]) W4) ∧ (I (pre ++ [x]) W3 → I (pre ++ [x]) W4) ∧ Kp W3 W4 := fun jump W3 hk3 => by
        have hl3 := hk3.same _ _ hl2 rfl
        have hr := run_endRound (P := P) jump hl3
        refine ⟨_, hr, ?_, (World.putObj_heap_other (by omega)).trans (hk3.same _ _ hd2 rfl), fun c hc => (hIx c).putObj _ hc (by omega) hl3 rfl, fun hc => hI.putObj _ hc (by omega) hl3 rfl, hKb _ _ _ _ (by omega) (by omega) hl3 rfl⟩
        rw [World.putObj_heap_same (Array.getElem?_eq_some_iff.1 hl3).1, hrec]
      refine ⟨_, hb, ?_⟩
      rw [hW2]
      refine wpIn_mono (hbody _ pre x _ _ hi2 hx2 hs hbox2 (by omega)) ?_
      rintro e a3 W3 hp
      cases e with
      | normal =>
        obtain ⟨hk3, hkp3, hi3⟩ := hp
        obtain ⟨W4, hr, hl4, hd4, _, hi4, hk4⟩ := fin none W3 hk3
        exact ⟨_, W4, hr, .inl ⟨rfl, ⟨hi4 hi3, hl4, hd4⟩, hKt _ _ _ hkV (hKt _ _ _ (hKt _ _ _ hk2 hkp3) hk4)⟩⟩
      | ret =>
        obtain ⟨W4, hr, hl4, hd4, hx4, _, _⟩ := fin (some .ret) W3 hp.1
        exact ⟨_, W4, hr, .inr ⟨rfl, .ret, hx4 _ hp.2, hl4, hd4⟩⟩
      | exit id =>
        obtain ⟨W4, hr, hl4, hd4, hx4, _, _⟩ := fin (some (.exit id)) W3 hp.1
        exact ⟨_, W4, hr, .inr ⟨rfl, .exit id, hx4 _ hp.2, hl4, hd4⟩⟩
      | goto t =>
        obtain ⟨W4, hr, hl4, hd4, hx4, _, _⟩ := fin (some (.goto t)) W3 hp.1
        exact ⟨_, W4, hr, .inr ⟨rfl, .goto t, hx4 _ hp.2, hl4, hd4⟩⟩
      | panic ch => exact hp.elim
      | outgrown => exact hp.elim
    · rintro e W2 ⟨⟨v, rfl⟩, (⟨xs, hS, hi, hl, hd⟩ | ⟨pre, hSp, c, hi, hl, hd⟩)⟩
      · have hr := run_endLoop (P := P) hl (by rw [hrec]; simp)
        rw [hrec] at hr
        exact ⟨none, _, hr, hdone _ xs _ (Nat.le_refl _) hS (hI.putObj _ hi (by omega) hl rfl) ((World.putObj_heap_other (by omega)).trans hd)⟩
      · have hr := run_endLoop (P := P) hl (by rw [hrec]; simp)
        rw [hrec] at hr
        exact ⟨some c, _, hr, hstop _ c pre _ (Nat.le_refl _) hSp ((hIx c).putObj _ hi (by omega) hl rfl) ((World.putObj_heap_other (by omega)).trans hd)⟩
end Go.Proofs.YtmahiejfniaahaaGreatDoor
