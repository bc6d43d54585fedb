/- Texts put together. -/
import Derived.Test.YtbjcioknfjofkaaGreatMComposeReinsert32
set_option linter.unusedVariables false
set_option linter.unusedSimpArgs false
set_option maxRecDepth 100000
namespace Go.Proofs.YtbjcioknfjofkaaGreat
open Go.RowKit
theorem old_read {X:World} {o:Obj} {L:List Tree} {v:Value} (h:SliceR treeE X (Lt X.heap.size) L v):SliceR treeE (X.alloc o) (fun k=>k < (X.alloc o).heap.size∧some k≠(Value.slice (some ⟨X.heap.size,0,none⟩) 0 0).ownBlock) L v:=by
 refine h.keep (fun q hq=>(below_allocR' X o).cell hq) (fun k hk=>⟨?_,?_⟩)
 ·have:=(below_allocR' X o).size
  exact Nat.lt_of_lt_of_le hk this
 ·intro e
  have e2:some k = some X.heap.size:=e
  injection e2 with e2
  unfold Lt at hk
  omega
theorem app_old {w:World} {ops:Array Oper} {rest:List Oper} {o:Oper} {a:Act} {Q:Exit→Act→World→Prop} (hgd:o.guard = none) (s x:Operand)
  (ho:o.op = .call { callee:=.builtin .append,args:=#[s,x],argTypes:=#[22,22] })
  (b:Nat) (v:Value) (yss:List Tree) (hs:a.eval s = v) (hown:w.ownsRow b 24 4 v 0 []) (A:Option Addr) (m c:Nat) (hx:a.eval x = .slice A m c) (hr:SliceR treeE w (fun k=>k < w.heap.size∧some k≠v.ownBlock) yss (.slice A m c))
  (hbound:yss.length≤1000000000) (hb:b≤w.heap.size)
  (h:∀ v' w',SliceR treeE w' (Lt w'.heap.size) yss v'→Below b w w'→wpList Tryz.prog ops Q rest (a.put o.dst v') w'):wpList Tryz.prog ops Q (o :: rest) a w:=by
 obtain ⟨i0,hi0,hz0,hz1,hz2⟩:=nodeInfo'
 obtain ⟨A',cap',rs,e,h1,h2,hrd,hls⟩:=hr
 injection e with e1 e2 e3
 subst e1 e2 e3
 have hl:=hls.len
 refine wpList_append_any w hgd s x 22 ho b 24 i0 _ 4 56 Tryz.underlying22 hi0 hz0 hz1 hz2 rfl (by omega) v _ _ hs hown _ A _ c rs hx hl hrd hls.one (by simp only [maxLen];omega) (by omega) hb ?_
 intro v' w' h3 h4 h5
 rw [Nat.zero_add,List.nil_append] at h3
 exact h v' w' (SliceR.of_own (E:=treeE) h3 (fun k hk=>(h3.lt k hk).2) (hls.keep (fun p hp=>World.cell?_of_block (h4.block p.block hp.1 hp.2)) (fun k hk=>Nat.lt_of_lt_of_le hk.1 h4.size))) (below_of_grown _ hown h4 hb)
set_option maxHeartbeats 4000000 in
theorem rItems_any (t : Tree) (p : List Int) (x y : Int) (A Ap : Option Addr) (cap cp : Nat) (w : World) (hv : SliceR treeE w (Lt w.heap.size) t.kids (.slice A t.kids.length cap)) (hok : NodeOk t) (hct : countS t ≤ 900000) (hp : IntsR w (Lt w.heap.size) p (.slice Ap p.length cp)) (hx : In64 x) (hy : In64 y) :
    Calls Tryz.prog 19 #[.agg #[.int .i64 t.kind, .string t.text, .int .i64 t.cols, .slice A t.kids.length cap], .agg #[.slice Ap p.length cp, .int .i64 x, .int .i64 y]] w (ItemsRes w (itemsR t p x y)) := by
  have C1 : Hid (∀ W, Below w.heap.size w W → Calls Tryz.prog 48 #[.agg #[.int .i64 t.kind, .string t.text, .int .i64 t.cols, .slice A t.kids.length cap], .slice Ap p.length cp] W (RowV W (rowRes t p).1 (rowRes t p).2)) := fun W hW => (rRow_any (.mk t.kind t.text t.cols t.kids) p A Ap cap cp W (by exact hv.below hW hW.size) hok.2.2 (by cases t; exact hct) (hp.below hW hW.size)).mono fun _ _ h => by cases t; obtain ⟨v, h1, h2, h3⟩ := h; exact ⟨v, h1, h2.keep (sameRefl _ _) (fun k hk => Nat.lt_of_lt_of_le hk h3.size), h3⟩
  have HR : Hid (((rowRes t p).2 ≠ 0 → itemsR t p x y = ([], (rowRes t p).2)) ∧ ((rowRes t p).2 = 0 → (x < 0 ∨ y < x ∨ (rowRes t p).1.kids.length < y) → itemsR t p x y = ([], 2)) ∧ ((rowRes t p).2 = 0 → ¬ (x < 0 ∨ y < x ∨ (rowRes t p).1.kids.length < y) → itemsR t p x y = (((rowRes t p).1.kids.take y.toNat).drop x.toNat, 0))) :=
    ⟨fun h => if_pos h, fun h1 h2 => (if_neg (by simp [h1])).trans (if_pos h2), fun h1 h2 => (if_neg (by simp [h1])).trans (if_neg h2)⟩
  have HC : Hid (countsS (rowRes t p).1.kids ≤ 900000) := rowRes_cntI t p hv hok hct
  generalize itemsR t p x y = res at *
  generalize rowRes t p = r at *
  obtain ⟨tk, tx, tc, ts⟩ := t
  obtain ⟨⟨rk, rx, rc, rs⟩, er⟩ := r
  simp only [Tree.kind, Tree.text, Tree.cols, Tree.kids] at *
  clear hv hok hct hp
  generalize hW0 : (w.alloc (Obj.cells #[.int .i64 tk, .string tx, .int .i64 tc, .slice A ts.length cap] 24)).alloc (.cells #[.slice Ap p.length cp, .int .i64 x, .int .i64 y] 46) = W0
  have KB : Hid (∀ W, Below W0.heap.size W0 W → (W.cell? ⟨w.heap.size, 0, none⟩ = some (.int .i64 tk) ∧ W.cell? ⟨w.heap.size, 1, none⟩ = some (.string tx) ∧ W.cell? ⟨w.heap.size, 2, none⟩ = some (.int .i64 tc) ∧ W.cell? ⟨w.heap.size, 3, none⟩ = some (.slice A ts.length cap)) ∧
      (W.cell? ⟨w.heap.size + 1, 0, none⟩ = some (.slice Ap p.length cp) ∧ W.cell? ⟨w.heap.size + 1, 1, none⟩ = some (.int .i64 x) ∧ W.cell? ⟨w.heap.size + 1, 2, none⟩ = some (.int .i64 y)) ∧ Below w.heap.size w W) := by
    intro W hW
    have hz : W0.heap.size = w.heap.size + 1 + 1 := by rw [← hW0]; simp
    have hc := (bcell hW).1
    have hbb : Below w.heap.size w W0 := by rw [← hW0]; exact bl_alloc (below_allocR' _ _) _
    refine ⟨⟨(hc _ _ (by omega)).trans ?_, (hc _ _ (by omega)).trans ?_, (hc _ _ (by omega)).trans ?_, (hc _ _ (by omega)).trans ?_⟩, ⟨(hc _ _ (by omega)).trans ?_, (hc _ _ (by omega)).trans ?_, (hc _ _ (by omega)).trans ?_⟩, hbb.trans (hW.mono hbb.size)⟩
    all_goals (rw [← hW0]; first | exact na2_c _ _ _ _ _ _ rfl | exact na_c _ _ _ _ _ (by simp))
  obtain ⟨⟨m0, m1, m2, m3⟩, ⟨c0, c1, c2⟩, hbw0⟩ := KB.out W0 (Below.refl _ _)
  have HBW0 := hid hbw0
  clear hbw0
  go_enter Tryz.func19, Tryz.ntmps19
  go_wp2_with fail
  refine (C1.out _ HBW0.out).mono ?_
  intro e w1 h1
  obtain ⟨v1, rfl, hr1, hb1⟩ : ∃ v, e = .returned (.tuple #[.agg #[.int .i64 rk, .string rx, .int .i64 rc, v], .int .i64 er]) ∧ SliceR treeE w1 (Lt w1.heap.size) rs v ∧ Below W0.heap.size W0 w1 := h1
  obtain ⟨A1, n1, rfl⟩ := hr1.form
  have HI1 := hid hr1
  have HB1 := hid hb1
  clear m0 m1 m2 m3 c0 c1 c2 hr1 hb1
  rcases Decidable.em (er = 0) with he | he
  case inr =>
    have HE := hid he
    have i0 : (er != 0) = true := by simpa using he
    go_wp2_with fail
    refine bodyPost_ret (v := .tuple #[.slice none 0 0, .int .i64 er]) (by simp [results, Tryz.results19, go_sem]) rfl ?_
    rw [HR.out.1 HE.out]
    exact ⟨_, rfl, SliceR.nil_ 0 (Nat.zero_le _) none, bl_alloc (KB.out w1 HB1.out).2.2 _⟩
  subst he
  go_upto_region 4 with fail
  obtain ⟨X, hX⟩ : ∃ X, w1.alloc (Obj.cells #[.int .i64 rk, .string rx, .int .i64 rc, .slice A1 rs.length n1] 24) = X := ⟨_, rfl⟩
  rw [hX]
  have HXB : Hid (Below w1.heap.size w1 X) := by show Below _ _ _; rw [← hX]; exact below_allocR' _ _
  obtain ⟨_, ⟨_, b1, b2⟩, hbw⟩ := KB.out X (HB1.out.trans (HXB.out.mono HB1.out.size))
  have n3 : X.cell? ⟨w1.heap.size, 3, none⟩ = some (.slice A1 rs.length n1) := by rw [← hX]; exact na_c _ _ _ _ _ rfl
  have HBW := hid hbw
  have HIX := hid (HI1.out.below HXB.out HXB.out.size)
  clear hbw hX
  have hn1 : rs.length ≤ n1 := by obtain ⟨_, _, _, hq, h1, _⟩ := HI1.out; cases hq; exact h1
  rcases Int.lt_or_le x 0 with h0 | h0
  · have i0 : decide (x < 0) = true := by simpa using h0
    have HH := hid h0
    clear h0
    go_wp2_with fail
    refine bodyPost_ret (v := .tuple #[.slice none 0 0, .int .i64 2]) (by simp [results, Tryz.results19, go_sem]) rfl ?_
    rw [HR.out.2.1 trivial (Or.inl HH.out)]
    exact ⟨_, rfl, SliceR.nil_ 0 (Nat.zero_le _) none, HBW.out⟩
  have i0 : decide (x < 0) = false := by simpa using h0
  rcases Int.lt_or_le y x with h1 | h1
  · have i1 : decide (y < x) = true := by simpa using h1
    have HH := hid h1
    clear h1 h0
    go_wp2_with fail
    refine bodyPost_ret (v := .tuple #[.slice none 0 0, .int .i64 2]) (by simp [results, Tryz.results19, go_sem]) rfl ?_
    rw [HR.out.2.1 trivial (Or.inr (Or.inl HH.out))]
    exact ⟨_, rfl, SliceR.nil_ 0 (Nat.zero_le _) none, HBW.out⟩
  have i1 : decide (y < x) = false := by simpa using h1
  rcases Int.lt_or_le rs.length y with h2 | h2
  · have i2 : decide ((rs.length : Int) < y) = true := by simpa using h2
    have HH := hid h2
    clear h1 h0 h2
    go_wp2_with fail
    refine bodyPost_ret (v := .tuple #[.slice none 0 0, .int .i64 2]) (by simp [results, Tryz.results19, go_sem]) rfl ?_
    rw [HR.out.2.1 trivial (Or.inr (Or.inr HH.out))]
    exact ⟨_, rfl, SliceR.nil_ 0 (Nat.zero_le _) none, HBW.out⟩
  have i2 : decide ((rs.length : Int) < y) = false := by simpa using h2
  obtain ⟨x', hx'⟩ : ∃ x' : Nat, x = x' := ⟨x.toNat, by omega⟩
  obtain ⟨y', hy'⟩ : ∃ y' : Nat, y = y' := ⟨y.toNat, by omega⟩
  obtain ⟨A2, hsl, hcut⟩ := cut_lh treeE Tryz.underlying22 size_node A1 rs.length n1 x y x' y' hx' hy' (by omega) (by omega) hn1
  have HCU := hid (hcut _ _ _ HIX.out)
  have HRES : Hid (res = ((rs.take y').drop x', 0)) := by
    have h := HR.out.2.2 trivial (by show ¬ (x < 0 ∨ y < x ∨ (rs.length : Int) < y); omega)
    rw [hx', hy', Int.toNat_natCast, Int.toNat_natCast] at h
    exact h
  have hlen : Hid (((rs.take y').drop x').length = y' - x') := by show _ = _; simp; omega
  have hcnt : Hid (countsS ((rs.take y').drop x') ≤ 900000) := by
    have h1 := countsS_drop_leI (rs.take y') x'
    have h2 := countsS_take_le rs y'
    have h3 := HC.out
    show _ ≤ _
    omega
  clear hcut h0 h1 h2 HR hx' hy'
  have HOE := hid (World.ownsRow_made (base := X.heap.size) (e := 24) (size := 4) X #[] 0 (Nat.le_refl _) (Nat.zero_le _) rfl)
  go_upto_region 6 with fail
  replace b1 := old_c X (.cells #[] 24) _ _ _ (by have := HBW.out.size; have := cell_lt b1; exact this) b1
  replace b2 := old_c X (.cells #[] 24) _ _ _ (by have := HBW.out.size; have := cell_lt b2; exact this) b2
  have hzz : w1.heap.size < X.heap.size := cell_lt n3
  have n4 := old_c X (.cells #[] 24) _ _ _ hzz n3
  generalize (rs.take y').drop x' = L at *
  have hlen2 : Hid (L.length ≤ 1000000) := by have h1 := countsS_len L; have h2 := hcnt.out; show _ ≤ _; omega
  go_wp2_with first
    | (refine app_old rfl (.tmp 36) (.tmp 43) rfl X.heap.size _ L rfl HOE.out _ _ _ rfl (old_read HCU.out) (by have := hlen2.out; omega) (by simp) ?_
       intro v2 w2 hr2 hb2
       have HO2 := hid hr2
       have HB2 := hid ((below_allocR' X (.cells #[] 24)).trans hb2)
       clear hr2 hb2)
  refine bodyPost_ret (v := .tuple #[v2, .int .i64 0]) (by simp [results, Tryz.results19, go_sem]) rfl ?_
  rw [HRES.out]
  exact ⟨_, rfl, HO2.out, HBW.out.trans (HB2.out.mono HBW.out.size)⟩
end Go.Proofs.YtbjcioknfjofkaaGreat
