/- arrow: vertical, the vertical moves. Written by wip/genvrt.py. -/
import Derived.Test.YtmahiejfniaahaaGreatDoorCandv
import Derived.Test.YtmahiejfniaahaaGreatDoorHO
import Derived.Test.YtmahiejfniaahaaGreatDoorHL
import Derived.Laws.EntriesVeiled
import Derived.Sort.CutIn
set_option linter.unusedVariables false
set_option linter.unusedSimpArgs false
set_option maxRecDepth 100000
namespace Go.Proofs.YtmahiejfniaahaaGreatDoor
open Go Go.RowKit Go.Shelf
attribute [local go_sem] Oper.semAt_some
theorem cars_vals {w : World} {S : Nat → Prop} {ds : List CarD} {A : Option Addr} {cap : Nat} (hv : CarsR w S ds (.slice A ds.length cap)) (h0 : 0 < ds.length) :
    ∃ vs : List CarV, vs.map Prod.fst = ds ∧ ∀ k (hk : k < vs.length), ∃ g o A' c', A = some ⟨g, o, none⟩ ∧ S g ∧ vs[k].2 = .slice A' vs[k].1.pos.length c' ∧ w.cell? ⟨g, o + k * 4, none⟩ = some (.slice A' vs[k].1.pos.length c') ∧ w.cell? ⟨g, o + k * 4 + 1, none⟩ = some (.int .i64 vs[k].1.x) ∧ w.cell? ⟨g, o + k * 4 + 2, none⟩ = some (.int .i64 vs[k].1.top) ∧ w.cell? ⟨g, o + k * 4 + 3, none⟩ = some (.int .i64 vs[k].1.bottom) ∧ IntsR w S vs[k].1.pos (.slice A' vs[k].1.pos.length c') := by
  obtain ⟨_, _, rs, hq, _, _, hrd, hls⟩ := hv
  cases hq
  obtain ⟨g, o, _, _, rfl, _⟩ := carsAt hrd hls h0
  refine ⟨(List.range ds.length).map fun k => ((ds.getD k zeroC, (w.cell? ⟨g, o + k * 4, none⟩).getD undef) : CarV), ?_, fun k hk => ?_⟩
  · apply List.ext_getElem (by simp)
    intro i h1 h2
    simp [List.getElem_map, List.getElem_range, h2]
  · have hk' : k < ds.length := by simpa using hk
    obtain ⟨g', o', A', c', e, hg, a0, a1, a2, a3, _, hi⟩ := carsAt hrd hls hk'
    cases e
    have hx : ((List.range ds.length).map fun k => ((ds.getD k zeroC, (w.cell? ⟨g, o + k * 4, none⟩).getD undef) : CarV))[k] = (ds[k], .slice A' ds[k].pos.length c') := by
      simp only [List.getElem_map, List.getElem_range]
      rw [a0, getD_at ds zeroC hk']
      rfl
    rw [hx]
    exact ⟨g, o, A', c', rfl, hg, rfl, a0, a1, a2, a3, hi⟩
theorem vertR_some {t : Tree} {b : Bx} {q : List Int} {px sign : Int} {l : List CarD} {e : CarD} (h : carsR t b = (l, 0)) (he : placeP t b (q ++ [px]) = some e) :
    vertR t b (q ++ [px]) sign = match leastBy (farS · e) (l.filter (candS q e sign)) with | none => ([], 8) | some d => (d.pos, 0) := by
  rw [vertR, h, he, List.dropLast_concat]
  rfl
theorem vertR_no {t : Tree} {b : Bx} {p : List Int} {sign : Int} (h : carsR t b = ([], 8)) : vertR t b p sign = ([], 8) := by
  rw [vertR, h]
  rfl
def bestV (o : Option CarV) : Value := match o with | none => .slice none 0 0 | some x => x.2
def bestN (f : CarD → Int) (o : Option CarV) : Int := match o with | none => 0 | some x => f x.1
theorem leastBy_mem {α : Type} {f : α → Int} {l : List α} {x : α} (h : leastBy f l = some x) : x ∈ l := by
  have go : ∀ (l : List α) (b : Option α) (x : α), l.foldl (leastStep f) b = some x → x ∈ l ∨ b = some x := by
    intro l
    induction l with
    | nil => intro b x h; exact .inr h
    | cons y l ih =>
      intro b x h
      rw [List.foldl_cons] at h
      rcases ih _ x h with h | h
      · exact .inl (List.mem_cons_of_mem _ h)
      · unfold leastStep at h
        cases b with
        | none => injection h with h; exact .inl (by rw [h]; exact List.mem_cons_self ..)
        | some z =>
          simp only at h
          split at h
          · injection h with h; exact .inl (by rw [h]; exact List.mem_cons_self ..)
          · exact .inr h
  rcases go l none x h with h | h
  · exact h
  · cases h
def VV (B N : Nat) (k : Nat) : Prop := (B ≤ k + 2 ∧ k < B) ∨ (N ≤ k ∧ k < N + 2)
set_option maxHeartbeats 8000000 in
theorem mvert_any (tk : Int) (tx : ByteArray) (tc : Int) (tn cap : Nat) (A Ak As Ap : Option Addr) (kind size bw bh bd bx by_ of_ : Int) (name : ByteArray) (kn ck sn cs pn cp : Nat) (t : Tree) (b : Bx) (q : List Int) (px sign : Int) (w : World) (ht : tk = t.kind ∧ tx = t.text ∧ tc = t.cols ∧ tn = t.kids.length) (hbx : kind = b.f.kind ∧ name = b.f.name ∧ size = b.f.size ∧ bw = b.f.w ∧ bh = b.f.h ∧ bd = b.f.d ∧ bx = b.f.x ∧ by_ = b.f.y ∧ kn = b.kids.length ∧ of_ = b.f.of_ ∧ sn = b.f.src.length)
    (hpn : pn = q.length + 1) (hp : IntsR w (Lt w.heap.size) (q ++ [px]) (.slice Ap pn cp)) (hvv : (validS t && validB b) = true) (hpi : posIn t (q ++ [px]) = true) (hsg : sign = 1 ∨ sign = -1)
    (HC : ∀ W, Below w.heap.size w W → Calls Tryz.prog 17 #[nodeV t A cap, boxV b Ak As ck cs] W (CarsRes W (carsR t b))) :
    Calls Tryz.prog 98 #[.agg #[.int .i64 tk, .string tx, .int .i64 tc, .slice A tn cap, .int .i64 kind, .string name, .int .i64 size, .int .i64 bw, .int .i64 bh, .int .i64 bd, .int .i64 bx, .int .i64 by_, .slice Ak kn ck, .int .i64 of_, .slice As sn cs, .slice Ap pn cp], .int .i64 sign] w (PosRes w (vertR t b (q ++ [px]) sign)) := by
  obtain ⟨W0, hW0⟩ : ∃ W0, w.alloc (Obj.cells #[.int .i64 tk, .string tx, .int .i64 tc, .slice A tn cap, .int .i64 kind, .string name, .int .i64 size, .int .i64 bw, .int .i64 bh, .int .i64 bd, .int .i64 bx, .int .i64 by_, .slice Ak kn ck, .int .i64 of_, .slice As sn cs, .slice Ap pn cp] 100) = W0 := ⟨_, rfl⟩
  have hB0 : Below w.heap.size w W0 := by rw [← hW0]; exact bNew _ _
  have hM0 : MovBox W0 w.heap.size #[.int .i64 tk, .string tx, .int .i64 tc, .slice A tn cap, .int .i64 kind, .string name, .int .i64 size, .int .i64 bw, .int .i64 bh, .int .i64 bd, .int .i64 bx, .int .i64 by_, .slice Ak kn ck, .int .i64 of_, .slice As sn cs, .slice Ap pn cp] ∧ w.heap.size < W0.heap.size := by rw [← hW0]; exact ⟨MovBox.new _ _ _ _ rfl, by simp⟩
  have HCA := hid (HC W0 hB0)
  have KB : Hid (∀ W, Below W0.heap.size W0 W → MovBox W w.heap.size #[.int .i64 tk, .string tx, .int .i64 tc, .slice A tn cap, .int .i64 kind, .string name, .int .i64 size, .int .i64 bw, .int .i64 bh, .int .i64 bd, .int .i64 bx, .int .i64 by_, .slice Ak kn ck, .int .i64 of_, .slice As sn cs, .slice Ap pn cp] ∧ Below w.heap.size w W ∧ w.heap.size < W.heap.size ∧ IntsR W (Lt w.heap.size) (q ++ [px]) (.slice Ap pn cp)) := fun W hW => by
    have h := hB0.trans (hW.mono hB0.size)
    exact ⟨hM0.1.below hW hM0.2, h, Nat.lt_of_lt_of_le hM0.2 hW.size, hp.keep (fun p hp => h.cell hp) (fun _ h => h)⟩
  have hB0' := hid hB0
  have HPN := hid hpn
  have HVB : Hid (validB b = true) := by show _ = _; cases h : validB b <;> simp_all
  have HPI := hid hpi
  have HSG := hid hsg
  rcases carsR_cases hvv with hcr | ⟨L, hcr, hcl, hsm, h0⟩
  · have HR : Hid (vertR t b (q ++ [px]) sign = ([], 8)) := vertR_no hcr
    rw [hcr] at HCA
    generalize vertR t b (q ++ [px]) sign = r at *
    obtain ⟨rfl, rfl, rfl, rfl⟩ := ht
    obtain ⟨rfl, rfl, rfl, rfl, rfl, rfl, rfl, rfl, rfl, rfl, rfl⟩ := hbx
    simp only [nodeV, boxV, boxC] at *
    clear HC hp hvv hpi hsg hpn hcr hM0 hB0
    obtain ⟨hmv, _, _, _⟩ := KB.out W0 (Below.refl _ _)
    have m0 := hmv 0 _ rfl
    have m1 := hmv 1 _ rfl
    have m2 := hmv 2 _ rfl
    have m3 := hmv 3 _ rfl
    have m4 := hmv 4 _ rfl
    have m5 := hmv 5 _ rfl
    have m6 := hmv 6 _ rfl
    have m7 := hmv 7 _ rfl
    have m8 := hmv 8 _ rfl
    have m9 := hmv 9 _ rfl
    have m10 := hmv 10 _ rfl
    have m11 := hmv 11 _ rfl
    have m12 := hmv 12 _ rfl
    have m13 := hmv 13 _ rfl
    have m14 := hmv 14 _ rfl
    have m15 := hmv 15 _ rfl
    clear hmv
    go_enter Tryz.func98, Tryz.ntmps98
    go_wp2_with fail
    clear hW0
    refine HCA.out.mono ?_
    rintro e1 w1 ⟨hb1, v1, rfl, hr1⟩
    have HB1 := hid (bCl hB0'.out hb1)
    clear hb1 hr1
    go_wp2_with fail
    go_ret2
    exact ⟨HB1.out, .slice none 0 0, by rw [HR.out]; rfl, by rw [HR.out]; exact SliceR.nil_ 0 (Nat.zero_le _) none⟩
  · have hown := cars_own (t := t) HVB.out hcl
    have hhas := cars_has (t := t) HVB.out hcl hpi
    have HVS : Hid (∀ e, placeP t b (q ++ [px]) = some e → vertR t b (q ++ [px]) sign = match leastBy (farS · e) (L.filter (candS q e sign)) with | none => ([], 8) | some d => (d.pos, 0)) := fun e he => vertR_some hcr he
    rw [hcr] at HCA
    have HOWN := hid hown
    have HHAS := hid hhas
    have HSM := hid hsm
    have HL0 := hid h0
    generalize vertR t b (q ++ [px]) sign = r at *
    obtain ⟨rfl, rfl, rfl, rfl⟩ := ht
    obtain ⟨rfl, rfl, rfl, rfl, rfl, rfl, rfl, rfl, rfl, rfl, rfl⟩ := hbx
    obtain ⟨tk, tx, tc, ts⟩ := t
    obtain ⟨f, ks⟩ := b
    obtain ⟨kind, name, size, bw, bh, bd, bx, by_, of_, src⟩ := f
    simp only [nodeV, boxV, boxC, Tree.kind, Tree.text, Tree.cols, Tree.kids, Bx.f, Bx.kids] at *
    clear HC hp hvv hpi hsg hpn hcr hcl hown hhas hsm h0 hM0 hB0
    generalize ts.length = tn at *
    generalize ks.length = kn at *
    generalize src.length = sn at *
    refine (callsIn_wide (n := 0)).1 ?_
    refine callsIn_of_wp_marks Tryz.func98 rfl trivial ?_ rfl
    simp only [Tryz.ntmps98, List.size_toArray, List.length_cons, List.length_nil, Nat.reduceAdd, Nat.reduceSub, Array.replicate_succ, Array.replicate_zero, List.push_toArray, List.append_toArray, List.nil_append, List.cons_append]
    obtain ⟨hmv, _, _, _⟩ := KB.out W0 (Below.refl _ _)
    have m0 := hmv 0 _ rfl
    have m1 := hmv 1 _ rfl
    have m2 := hmv 2 _ rfl
    have m3 := hmv 3 _ rfl
    have m4 := hmv 4 _ rfl
    have m5 := hmv 5 _ rfl
    have m6 := hmv 6 _ rfl
    have m7 := hmv 7 _ rfl
    have m8 := hmv 8 _ rfl
    have m9 := hmv 9 _ rfl
    have m10 := hmv 10 _ rfl
    have m11 := hmv 11 _ rfl
    have m12 := hmv 12 _ rfl
    have m13 := hmv 13 _ rfl
    have m14 := hmv 14 _ rfl
    have m15 := hmv 15 _ rfl
    clear hmv
    gi_wp2_with fail
    clear hW0
    refine ⟨trivial, rfl, ?_⟩
    refine (callsIn_wide.2 HCA.out).mono ?_
    rintro e1 w1 ⟨hb1, v1, rfl, hr1⟩
    obtain ⟨A1, c1, rfl⟩ := hr1.form
    have HB1 := hid hb1
    have HR1 : Hid (CarsR w1 (fun k => W0.heap.size ≤ k ∧ k < w1.heap.size) L (.slice A1 L.length c1)) := hr1
    have hlen := hr1.lens
    unfold maxLen at hlen
    clear hb1 hr1 m0 m1 m2 m3 m4 m5 m6 m7 m8 m9 m10 m11 m12 m13 m14 m15
    obtain ⟨hmv, _, hgt, hpp⟩ := KB.out w1 HB1.out
    have hpp1 : (q ++ [px]).length = pn := by rw [HPN.out]; simp
    have HIX := hid (vidx_any L (q ++ [px]) A1 Ap c1 cp w.heap.size _ (Lt w.heap.size) w1 (fun k hk => hk.2) HR1.out (by rw [hpp1]; exact hpp) (fun k hk => Nat.lt_trans hk hgt) (by rw [hpp1]; exact by have h := hmv 15 _ rfl; exact h) HHAS.out)
    clear hmv hpp hpp1
    gi_wp2_with fail
    refine ⟨trivial, rfl, ?_⟩
    refine (callsIn_wide.2 HIX.out).mono ?_
    rintro e2 w2 ⟨k, hk, hkp, rfl, hb2⟩
    have HB2 : Hid (Below W0.heap.size W0 w2) := bCl HB1.out hb2
    have HB12 := hid hb2
    obtain ⟨vs, hvs, hvat⟩ := cars_vals HR1.out HL0.out
    have hvl : vs.length = L.length := by rw [← hvs]; simp
    have he1 := HOWN.out k hk
    rw [hkp] at he1
    have HVR := hid (HVS.out L[k] he1.1)
    have hse := HSM.out _ (List.getElem_mem hk)
    have hvk : vs[k].1 = L[k] := by simp [← hvs]
    obtain ⟨g, o, A7, c7, hA1, hg, hv7, a0, a1, a2, a3, hi7⟩ := hvat k (by omega)
    subst hA1
    rw [hvk] at a0 a1 a2 a3 hi7
    have hpl : L[k].pos.length = q.length + 1 := by rw [hkp]; simp
    rw [hpl] at a0
    generalize hLe : L[k] = e at *
    have hHE : Hid (e.pos = q ++ [px]) := hkp
    have hgw : g < w1.heap.size := hg.2
    have b0 := (hb2.cell (p := ⟨g, _, none⟩) hgw).trans a0
    have b1 := (hb2.cell (p := ⟨g, _, none⟩) hgw).trans a1
    have b2 := (hb2.cell (p := ⟨g, _, none⟩) hgw).trans a2
    have b3 := (hb2.cell (p := ⟨g, _, none⟩) hgw).trans a3
    have j1 : decide ((k : Int) < 0) = false := by rw [decide_eq_false_iff_not]; omega
    have j2 : (0 : Int) ≤ (k : Int) := by omega
    have j3 : (k : Int) < (L.length : Int) := by omega
    obtain ⟨hmv, _, hgt2, _⟩ := KB.out w2 HB2.out
    have m0 := hmv 0 _ rfl
    have m1 := hmv 1 _ rfl
    have m2 := hmv 2 _ rfl
    have m3 := hmv 3 _ rfl
    have m4 := hmv 4 _ rfl
    have m5 := hmv 5 _ rfl
    have m6 := hmv 6 _ rfl
    have m7 := hmv 7 _ rfl
    have m8 := hmv 8 _ rfl
    have m9 := hmv 9 _ rfl
    have m10 := hmv 10 _ rfl
    have m11 := hmv 11 _ rfl
    have m12 := hmv 12 _ rfl
    have m13 := hmv 13 _ rfl
    have m14 := hmv 14 _ rfl
    have m15 := hmv 15 _ rfl
    clear hmv
    have HVAT := hid hvat
    have HVL := hid hvl
    have HVSM : Hid (∀ v ∈ vs, v.1.Sm) := fun v hv => HSM.out _ (by rw [← hvs]; exact List.mem_map_of_mem hv)
    have HVNE : Hid (∀ v ∈ vs, v.1.pos ≠ []) := fun v hv => by
      have hm : v.1 ∈ L := by rw [← hvs]; exact List.mem_map_of_mem hv
      obtain ⟨j, hj, hje⟩ := List.mem_iff_getElem.1 hm
      have := (HOWN.out j hj).2
      rw [hje] at this
      obtain ⟨q', x', h⟩ := posIn_ne this
      rw [h]
      simp
    have HVF : Hid (L.filter (candS q e sign) = (vs.filter fun v => candS q e sign v.1).map Prod.fst) := by
      show _ = _
      rw [← hvs, List.filter_map]
      rfl
    have HSE := hid hse
    clear hvat hvl hb2 hkp he1 hse hvk hv7 a0 a1 a2 a3 hvs
    gi_upto_region 10 with fail
    obtain ⟨X4, hX4⟩ : ∃ X, ((w2.alloc (.cells #[.slice A7 (q.length + 1) c7, .int .i64 e.x, .int .i64 e.top, .int .i64 e.bottom] 32)).alloc (.cells #[.slice none 0 0] 26)).alloc (.cells #[.int .i64 0] 3) = X := ⟨_, rfl⟩
    have hb4 : Below w2.heap.size w2 X4 := by rw [← hX4]; exact bAl (bAl (bNew _ _) _) _
    have hz4 : X4.heap.size = w2.heap.size + 3 := by rw [← hX4]; simp
    have ho0 : HasObj X4 w2.heap.size (.cells #[.slice A7 (q.length + 1) c7, .int .i64 e.x, .int .i64 e.top, .int .i64 e.bottom] 32) := by rw [← hX4]; exact ((HasObj.at0 _ _).al _).al _
    have ho1 : HasObj X4 (w2.heap.size + 1) (.cells #[.slice none 0 0] 26) := by rw [← hX4]; exact (HasObj.at1 _ _ _).al _
    have ho2 : HasObj X4 (w2.heap.size + 2) (.cells #[.int .i64 0] 3) := by rw [← hX4]; exact HasObj.new _ _ _ (by simp)
    have HB4 : Hid (Below W0.heap.size W0 X4) := bCl HB2.out hb4
    obtain ⟨hmv, hbw4, _, hpp4⟩ := KB.out X4 HB4.out
    have HB14 : Hid (Below w1.heap.size w1 X4) := bCl HB12.out hb4
    have HPP4 := hid hpp4
    clear m0 m1 m2 m3 m4 m5 m6 m7 m8 m9 m10 m11 m12 m13 m14 m15 b0 b1 b2 b3
    have m0 := hmv 0 _ rfl
    have m1 := hmv 1 _ rfl
    have m2 := hmv 2 _ rfl
    have m3 := hmv 3 _ rfl
    have m4 := hmv 4 _ rfl
    have m5 := hmv 5 _ rfl
    have m6 := hmv 6 _ rfl
    have m7 := hmv 7 _ rfl
    have m8 := hmv 8 _ rfl
    have m9 := hmv 9 _ rfl
    have m10 := hmv 10 _ rfl
    have m11 := hmv 11 _ rfl
    have m12 := hmv 12 _ rfl
    have m13 := hmv 13 _ rfl
    have m14 := hmv 14 _ rfl
    have m15 := hmv 15 _ rfl
    clear hmv hpp4
    have f0 := ho0.cells.1 0 _ rfl
    have f1 := ho0.cells.1 1 _ rfl
    have f2 := ho0.cells.1 2 _ rfl
    have f3 := ho0.cells.1 3 _ rfl
    simp only [Nat.zero_add] at f0 f1 f2 f3
    have HO := hid (And.intro ho0 (And.intro ho1 ho2))
    have HZ4 := hid hz4
    try rw [hX4]
    clear hX4 hb4 ho0 ho1 ho2 hz4
    gi_wp2_with (refine ⟨trivial, rfl, ?_⟩; gi_at_call 129; refine (callsIn_wide.2 (candf_any tk tx tc tn cap A Ak As Ap kind size bw bh bd bx by_ of_ name kn ck sn cs pn cp (some ⟨g, o, none⟩) A7 L.length c1 (q.length + 1) c7 e.x e.top e.bottom sign _)).mono ?_; rintro e5 w5 ⟨rfl, hw5⟩; have HW5 := hid hw5; clear hw5)
    have hw5 := HW5.out
    have hz5 : w5.heap.size = X4.heap.size + 4 := by rw [hw5]; simp
    have hb45 : Below X4.heap.size X4 w5 := by rw [hw5]; exact bAl (bAl (bAl (bNew _ _) _) _) _
    have ho3 : HasObj w5 X4.heap.size (.cells #[.int .i64 tk, .string tx, .int .i64 tc, .slice A tn cap, .int .i64 kind, .string name, .int .i64 size, .int .i64 bw, .int .i64 bh, .int .i64 bd, .int .i64 bx, .int .i64 by_, .slice Ak kn ck, .int .i64 of_, .slice As sn cs, .slice Ap pn cp] 100) := by rw [hw5]; exact (((HasObj.at0 _ _).al _).al _).al _
    have ho4 : HasObj w5 (X4.heap.size + 1) (.cells #[.slice (some ⟨g, o, none⟩) L.length c1] 42) := by rw [hw5]; exact ((HasObj.at1 _ _ _).al _).al _
    have ho5 : HasObj w5 (X4.heap.size + 2) (.cells #[.slice A7 (q.length + 1) c7, .int .i64 e.x, .int .i64 e.top, .int .i64 e.bottom] 32) := by rw [hw5]; exact (HasObj.new _ _ _ (by simp)).al _
    have ho6 : HasObj w5 (X4.heap.size + 3) (.cells #[.int .i64 sign] 3) := by rw [hw5]; exact HasObj.new _ _ _ (by simp)
    have h0 := HO.out.1.below hb45
    have h1 := HO.out.2.1.below hb45
    have h2 := HO.out.2.2.below hb45
    have HB15 : Hid (Below w1.heap.size w1 w5) := bCl HB14.out hb45
    have HB05 : Hid (Below w.heap.size w w5) := bCl (KB.out X4 HB4.out).2.1 hb45
    have hz4 := HZ4.out
    have hz2 : w1.heap.size ≤ w2.heap.size := HB12.out.size
    have hz1 : w.heap.size < w1.heap.size := (KB.out w1 HB1.out).2.2.1
    have HKX : Hid (∀ W', But (fun _ => VV X4.heap.size (X4.heap.size + 4)) w5 W' → CandK (VV X4.heap.size (X4.heap.size + 4)) tk tx tc tn cap A Ak As Ap kind size bw bh bd bx by_ of_ name kn ck sn cs pn cp X4.heap.size (some ⟨g, o, none⟩) A7 c1 (q.length + 1) c7 q px e sign vs w5 W') := fun W' hW => by
      have keepB : ∀ (j n : Nat) v, X4.heap.size ≤ j → j < X4.heap.size + 4 → w5.cell? ⟨j, n, none⟩ = some v → W'.cell? ⟨j, n, none⟩ = some v := fun j n v q1 q2 hc => (hW.cell (p := ⟨j, n, none⟩) (by show j < _; omega) (by show ¬ VV _ _ j; unfold VV; omega)).trans hc
      have keepO : ∀ (p : Addr), p.block < w1.heap.size → W'.cell? p = w1.cell? p := fun p hp => (hW.cell (by have := HB15.out.size; omega) (by unfold VV; omega)).trans (HB15.out.cell hp)
      have k4 := ho4.cells.1 0 _ rfl
      have k6 := ho6.cells.1 0 _ rfl
      have k50 := ho5.cells.1 0 _ rfl
      have k51 := ho5.cells.1 1 _ rfl
      have k52 := ho5.cells.1 2 _ rfl
      have k53 := ho5.cells.1 3 _ rfl
      simp only [Nat.zero_add] at k4 k6 k50 k51 k52 k53
      refine ⟨hW, ⟨by rw [HVL.out]; exact keepB _ _ _ (by omega) (by omega) k4, ?_, keepB _ _ _ (by omega) (by omega) k6, keepB _ _ _ (by omega) (by omega) k50, keepB _ _ _ (by omega) (by omega) k51, keepB _ _ _ (by omega) (by omega) k52, keepB _ _ _ (by omega) (by omega) k53⟩, ?_, ?_⟩
      · intro j u hu
        have hc := ho3.cells.1 j u (by simpa using hu)
        rw [Nat.zero_add] at hc
        exact keepB _ _ _ (by omega) (by omega) hc
      · intro j hj
        obtain ⟨g', o', A', c', e', hg', hv', a0, a1, a2, a3, hi⟩ := HVAT.out j hj
        cases e'
        have hgs : g < w1.heap.size := hg'.2
        exact ⟨g, o, A', c', rfl, by have := hW.size; have := HB15.out.size; omega, hv', (keepO ⟨g, _, none⟩ hgs).trans a0, (keepO ⟨g, _, none⟩ hgs).trans a1, (keepO ⟨g, _, none⟩ hgs).trans a2, (keepO ⟨g, _, none⟩ hgs).trans a3, hi.keep (fun p hp => keepO p hp.2) (fun k hk => by have := hW.size; have := HB15.out.size; have := hk.2; unfold Lt; omega)⟩
      · obtain ⟨_, _, _, hpp⟩ := KB.out w1 HB1.out
        exact hpp.keep (fun p hp => keepO p (by unfold Lt at hp; omega)) (fun k hk => by have := hW.size; have := HB15.out.size; unfold Lt at *; omega)
    have kb1 := h1.cells.1 0 _ rfl
    have kb2 := h2.cells.1 0 _ rfl
    have kf0 := h0.cells.1 0 _ rfl
    have kf1 := h0.cells.1 1 _ rfl
    have kf2 := h0.cells.1 2 _ rfl
    have kf3 := h0.cells.1 3 _ rfl
    have kz1 := h1.cells.2 0
    have kz2 := h2.cells.2 0
    simp only [Nat.zero_add] at kb1 kb2 kf0 kf1 kf2 kf3
    have HVX : Hid (∀ v ∈ vs, ∃ g' o' c', v.2 = .slice (some ⟨g', o', none⟩) v.1.pos.length c' ∧ v.1.Sm ∧ IntsR w1 (fun k => W0.heap.size ≤ k ∧ k < w1.heap.size) v.1.pos v.2) := fun v hv => by
      obtain ⟨j, hj, hje⟩ := List.mem_iff_getElem.1 hv
      obtain ⟨g', o', A', c', e', hg', hv', _, _, _, _, hi⟩ := HVAT.out j hj
      rw [hje] at hv' hi
      have hne := HVNE.out v hv
      have hi2 := hi
      obtain ⟨_, _, rs, hq, _, _, hrd, hls⟩ := hi
      cases hq
      obtain ⟨g2, o2, e2, _⟩ := ints_at hrd hls (k := 0) (List.length_pos_iff.2 hne)
      subst e2
      exact ⟨g2, o2, c', hv', HVSM.out v hv, by rw [hv']; exact hi2⟩
    clear ho3 ho4 ho5 ho6 h0 h1 h2 hw5 m0 m1 m2 m3 m4 m5 m6 m7 m8 m9 m10 m11 m12 m13 m14 m15 f0 f1 f2 f3
    have HBN : Hid (X4.heap.size = w2.heap.size + 3 ∧ w5.heap.size = X4.heap.size + 4 ∧ w1.heap.size ≤ w2.heap.size ∧ w.heap.size < w1.heap.size) := ⟨hz4, hz5, hz2, hz1⟩
    have HVX2 := hid HVX.out
    obtain ⟨CL, hCL⟩ : ∃ CL, CL = vs.filter fun v => candS q e sign v.1 := ⟨_, rfl⟩
    have HCLM : Hid (∀ v ∈ CL, v ∈ vs) := fun v hv => by rw [hCL] at hv; exact (List.mem_filter.1 hv).1
    have HSEQ := hid (cand_seq (VV X4.heap.size (X4.heap.size + 4)) tk tx tc tn cap A Ak As Ap kind size bw bh bd bx by_ of_ name kn ck sn cs pn cp X4.heap.size (some ⟨g, o, none⟩) A7 c1 (q.length + 1) c7 q px e sign vs w5 HKX.out HVSM.out HVNE.out HSE.out HSG.out (by have := HVL.out; omega) HPN.out (by omega))
    rw [← hCL] at HSEQ HVF
    have HRES : Hid (r = match (leastBy (fun x : CarV => farS x.1 e) CL).map Prod.fst with | none => ([], (8 : Int)) | some d => (d.pos, (0 : Int))) := by
      show _ = _
      rw [HVR.out, HVF.out, leastBy_map]
      rfl
    clear hCL HKX HVR HVF HVSM HVNE HVAT HVL HOWN HHAS HSM hHE hz4 hz5 hz2 hz1 hb45
    have GD : ∀ W, w5.heap.size + 2 ≤ W.heap.size → Gdv (fun _ => VV X4.heap.size (X4.heap.size + 4)) W := fun W hW W' hb k hk => ⟨hk, by have := HBN.out; unfold VV at hk; omega⟩
    have HGD := hid GD
    clear GD
    refine wpIn_range_box 12 (gf := 149) (lb := #[.pointer (some ⟨X4.heap.size + 1, 0, none⟩), .pointer (some ⟨X4.heap.size, 0, none⟩), .pointer (some ⟨X4.heap.size + 3, 0, none⟩), .pointer (some ⟨X4.heap.size + 2, 0, none⟩)]) rfl (enters_of Tryz.func149 (by kernel_rfl) rfl) HSEQ.out
      (fun _ _ _ h k => h.trans k)
      (fun W l o o' q1 q2 _ _ => But.putObj (V := VV X4.heap.size (X4.heap.size + 4)) W l o' (.inr (by have := HBN.out; omega)))
      (fun _ _ _ _ _ _ _ _ _ h => h)
      (fun pre W => Below w1.heap.size w1 W ∧ (W.cell? ⟨w2.heap.size + 1, 0, none⟩ = some (bestV (leastBy (fun x : CarV => farS x.1 e) pre)) ∧ W.frozen? ⟨w2.heap.size + 1, 0, none⟩ = false) ∧ (W.cell? ⟨w2.heap.size + 2, 0, none⟩ = some (.int .i64 (bestN (farS · e) (leastBy (fun x : CarV => farS x.1 e) pre))) ∧ W.frozen? ⟨w2.heap.size + 2, 0, none⟩ = false) ∧
        W.cell? ⟨w2.heap.size, 0, none⟩ = some (.slice A7 (q.length + 1) c7) ∧ W.cell? ⟨w2.heap.size, 1, none⟩ = some (.int .i64 e.x) ∧ W.cell? ⟨w2.heap.size, 2, none⟩ = some (.int .i64 e.top) ∧ W.cell? ⟨w2.heap.size, 3, none⟩ = some (.int .i64 e.bottom))
      (fun c pre W => False)
      ?hI ?hGd ?hIx ⟨HB15.out, ⟨kb1, kz1⟩, ⟨kb2, kz2⟩, kf0, kf1, kf2, kf3⟩
      (fun x => .cells #[x.2, .int .i64 x.1.x, .int .i64 x.1.top, .int .i64 x.1.bottom] 32) (fun _ => rfl) ?hKa (fun _ _ _ h => h) ?assign ?body ?done ?stop
    case hI => exact OwnFrom.and (ownFrom_below (Nat.le_refl _) HB15.out.size) (OwnFrom.and (own_box _ _ (fun pre : List CarV => bestV (leastBy (fun x : CarV => farS x.1 e) pre))) (OwnFrom.and (own_box _ _ (fun pre : List CarV => .int .i64 (bestN (farS · e) (leastBy (fun x : CarV => farS x.1 e) pre)))) (OwnFrom.and (own_cell _ _ (fun _ => .slice A7 (q.length + 1) c7)) (OwnFrom.and (own_cell _ _ (fun _ => .int .i64 e.x)) (OwnFrom.and (own_cell _ _ (fun _ => .int .i64 e.top)) (own_cell _ _ (fun _ => .int .i64 e.bottom)))))))
    case hGd => exact fun s W _ hW => HGD.out W hW
    case hIx => exact fun c => own_pure _ _
    case hKa => exact fun s W o _ hW => But.of_below (bNew W o) (HGD.out W hW)
    case assign =>
      intro l pre x W K hpre hK
      obtain ⟨g', o', c', hv', _, _⟩ := HVX2.out x (HCLM.out x (hpre.subset (by simp)))
      obtain ⟨d, v⟩ := x
      simp only at hv'
      subst hv'
      dsimp only [carVal] at hK ⊢
      gi_wp2
      exact hK
    case body =>
      rintro l pre ⟨d, v⟩ gb W ⟨hb, ⟨hc1, hf1⟩, ⟨hc2, hf2⟩, f0, f1, f2, f3⟩ _ hpre hbox hgb
      obtain ⟨g', o', c', hv', hsd, hi⟩ := HVX2.out (d, v) (HCLM.out (d, v) (hpre.subset (by simp)))
      have HPY : Hid (∀ y ∈ pre, ∃ g' o' c', y.2 = .slice (some ⟨g', o', none⟩) y.1.pos.length c' ∧ y.1.Sm) := fun y hy => by
        obtain ⟨g', o', c', h1, h2, _⟩ := HVX2.out y (HCLM.out y (hpre.subset (by simp [hy])))
        exact ⟨g', o', c', h1, h2⟩
      simp only at hv' hsd
      subst hv'
      have HBX : HasObj W gb (.cells #[.slice (some ⟨g', o', none⟩) d.pos.length c', .int .i64 d.x, .int .i64 d.top, .int .i64 d.bottom] 32) := hbox
      have hgl := HBX.lt
      have g0 := HBX.cells.1 0 _ rfl
      have g1 := HBX.cells.1 1 _ rfl
      have g2 := HBX.cells.1 2 _ rfl
      have g3 := HBX.cells.1 3 _ rfl
      simp only [Nat.zero_add] at g0 g1 g2 g3
      have hl1 := cIn hc1
      have hl2 := cIn hc2
      have hl0 := cIn f0
      have HBW := hid hb
      have HWS : Hid (w5.heap.size + 2 ≤ W.heap.size) := by show _ ≤ _; omega
      have hld := hsd.lev
      have hle := HSE.out.lev
      have hfb := farS_bd hsd HSE.out
      have hsx := hsd.x
      have hex := HSE.out.x
      unfold Sm at hsx hex
      have CLD : Hid (∀ W, Calls Tryz.prog 131 #[.agg #[.slice (some ⟨g', o', none⟩) d.pos.length c', .int .i64 d.x, .int .i64 d.top, .int .i64 d.bottom]] W fun e w' => e = .returned (.int .i64 (levS d)) ∧ Below W.heap.size W w') := fun W => (alevel_any d _ _ c' W hsd).mono fun e w' h => ⟨h.1, h.2 ▸ bNew _ _⟩
      have CLE : Hid (∀ W, Calls Tryz.prog 131 #[.agg #[.slice A7 (q.length + 1) c7, .int .i64 e.x, .int .i64 e.top, .int .i64 e.bottom]] W fun e' w' => e' = .returned (.int .i64 (levS e)) ∧ Below W.heap.size W w') := fun W => (alevel_any e _ _ c7 W HSE.out).mono fun e w' h => ⟨h.1, h.2 ▸ bNew _ _⟩
      have CD1 := hid (fun W => adist_q (levS d) (levS e) W hld hle)
      have CD2 := hid (fun W => adist_q d.x e.x W (by omega) (by omega))
      have hfd : farS d e = max (levS d - levS e) (levS e - levS d) + 2 * max (d.x - e.x) (e.x - d.x) := rfl
      have w1_ : IntKind.i64.wrap (2 * max (d.x - e.x) (e.x - d.x)) = 2 * max (d.x - e.x) (e.x - d.x) := IntWalk.i64_in _ (by omega)
      have w2_ : IntKind.i64.wrap (max (levS d - levS e) (levS e - levS d) + 2 * max (d.x - e.x) (e.x - d.x)) = farS d e := by rw [← hfd]; exact IntWalk.i64_in _ (by omega)
      have HST0 := hid (leastBy_snoc (fun x : CarV => farS x.1 e) pre ((d, .slice (some ⟨g', o', none⟩) d.pos.length c') : CarV))
      have HMEM : Hid (∀ y, leastBy (fun x : CarV => farS x.1 e) pre = some y → ∃ g' o' c', y.2 = .slice (some ⟨g', o', none⟩) y.1.pos.length c' ∧ y.1.Sm) := fun y hy => HPY.out y (leastBy_mem hy)
      have HFY : Hid (∀ y : CarV, y.1.Sm → 0 ≤ farS y.1 e ∧ farS y.1 e ≤ 1125899906842624) := fun y hy => farS_bd hy HSE.out
      clear hld hle hfb hsx hex hfd hsd hi hpre hbox HBX hb
      generalize hfde : farS d e = fd at *
      have HFD := hid hfde
      generalize max (levS d - levS e) (levS e - levS d) = ml at *
      generalize max (d.x - e.x) (e.x - d.x) = mx at *
      generalize levS d = ld at *
      generalize levS e = le at *
      clear hfde
      obtain ⟨dp, dx, dt, db⟩ := d
      obtain ⟨ep, ex, et, eb⟩ := e
      simp only at *
      generalize hn' : dp.length = n' at *
      have HN' := hid hn'
      clear hn'
      have KS : Hid (∀ w', Below W.heap.size W w' → w'.cell? ⟨gb, 0, none⟩ = some (.slice (some ⟨g', o', none⟩) n' c') ∧ w'.cell? ⟨gb, 1, none⟩ = some (.int .i64 dx) ∧ w'.cell? ⟨gb, 2, none⟩ = some (.int .i64 dt) ∧ w'.cell? ⟨gb, 3, none⟩ = some (.int .i64 db) ∧ w'.cell? ⟨w2.heap.size, 0, none⟩ = some (.slice A7 (q.length + 1) c7) ∧ w'.cell? ⟨w2.heap.size, 1, none⟩ = some (.int .i64 ex) ∧ w'.cell? ⟨w2.heap.size, 2, none⟩ = some (.int .i64 et) ∧ w'.cell? ⟨w2.heap.size, 3, none⟩ = some (.int .i64 eb)) := fun W' hW => ⟨(hW.cell (p := ⟨gb, _, none⟩) hgl).trans g0, (hW.cell (p := ⟨gb, _, none⟩) hgl).trans g1, (hW.cell (p := ⟨gb, _, none⟩) hgl).trans g2, (hW.cell (p := ⟨gb, _, none⟩) hgl).trans g3, (hW.cell (p := ⟨w2.heap.size, _, none⟩) hl0).trans f0, (hW.cell (p := ⟨w2.heap.size, _, none⟩) hl0).trans f1, (hW.cell (p := ⟨w2.heap.size, _, none⟩) hl0).trans f2, (hW.cell (p := ⟨w2.heap.size, _, none⟩) hl0).trans f3⟩
      have hn := fun w => Lib.run_eql_slice_nil (P := Tryz.prog) w
      cases hlb : leastBy (fun x : CarV => farS x.1 ⟨ep, ex, et, eb⟩) pre with
      | none =>
        have HST : Hid (leastBy (fun x : CarV => farS x.1 ⟨ep, ex, et, eb⟩) (pre ++ [((⟨dp, dx, dt, db⟩, .slice (some ⟨g', o', none⟩) n' c') : CarV)]) = some (⟨dp, dx, dt, db⟩, .slice (some ⟨g', o', none⟩) n' c')) := by
          show _ = _
          rw [HST0.out, hlb]
          rfl
        rw [hlb] at hc1 hc2
        simp only [bestV, bestN] at hc1 hc2
        have KQ : Hid (∀ w', Below W.heap.size W w' → w'.cell? ⟨w2.heap.size + 1, 0, none⟩ = some (.slice none 0 0) ∧ w'.frozen? ⟨w2.heap.size + 1, 0, none⟩ = false ∧ w'.cell? ⟨w2.heap.size + 2, 0, none⟩ = some (.int .i64 0) ∧ w'.frozen? ⟨w2.heap.size + 2, 0, none⟩ = false ∧ w'.cell? ⟨gb, 0, none⟩ = some (.slice (some ⟨g', o', none⟩) n' c') ∧ w'.cell? ⟨gb, 1, none⟩ = some (.int .i64 dx) ∧ w'.cell? ⟨gb, 2, none⟩ = some (.int .i64 dt) ∧ w'.cell? ⟨gb, 3, none⟩ = some (.int .i64 db) ∧ w'.cell? ⟨w2.heap.size, 0, none⟩ = some (.slice A7 (q.length + 1) c7) ∧ w'.cell? ⟨w2.heap.size, 1, none⟩ = some (.int .i64 ex) ∧ w'.cell? ⟨w2.heap.size, 2, none⟩ = some (.int .i64 et) ∧ w'.cell? ⟨w2.heap.size, 3, none⟩ = some (.int .i64 eb)) := fun W' hW => ⟨(hW.cell (p := ⟨_, _, none⟩) hl1).trans hc1, (hW.frozen (p := ⟨_, _, none⟩) hl1).trans hf1, (hW.cell (p := ⟨_, _, none⟩) hl2).trans hc2, (hW.frozen (p := ⟨_, _, none⟩) hl2).trans hf2, KS.out W' hW⟩
        clear HST0 hlb HMEM HFY hc1 hf1 hc2 hf2 g0 g1 g2 g3 f0 f1 f2 f3
        obtain ⟨g0, g1, g2, g3, f0, f1, f2, f3⟩ := KS.out W (Below.refl _ _)
        gi_upto_region 12 with fail
        refine region_round (S := fun w' => w'.cell? ⟨gb, 0, none⟩ = some (.slice (some ⟨g', o', none⟩) n' c') ∧ w'.cell? ⟨gb, 1, none⟩ = some (.int .i64 dx) ∧ w'.cell? ⟨gb, 2, none⟩ = some (.int .i64 dt) ∧ w'.cell? ⟨gb, 3, none⟩ = some (.int .i64 db) ∧ w'.cell? ⟨w2.heap.size, 0, none⟩ = some (.slice A7 (q.length + 1) c7) ∧ w'.cell? ⟨w2.heap.size, 1, none⟩ = some (.int .i64 ex) ∧ w'.cell? ⟨w2.heap.size, 2, none⟩ = some (.int .i64 et) ∧ w'.cell? ⟨w2.heap.size, 3, none⟩ = some (.int .i64 eb)) (by kernel_rfl) (noDefer_of (by kernel_rfl)) (fun _ _ h => h) (KS.out _ (Below.refl _ _).drew) (fun hHeld => ?_)
        refine wpAnyH_take (i := 0) (oi := ⟨some 40, _, _, _, _, _⟩) (v := ?_) rfl (by kernel_rfl) (by kernel_rfl) (by kernel_rfl) (fun _ _ _ h => h) (Or.inl ⟨by rfl, ?_⟩) hHeld ?_
        rotate_left
        · (intro w hSw; obtain ⟨t0, t1, t2, t3, t4, t5, t6, t7⟩ := hSw; go_simp; try with_reducible rfl)
        try simp only [Act.put, List.setIfInBounds_toArray, List.set_cons_zero, List.set_cons_succ]
        refine wpAnyH_take (i := 2) (oi := ⟨some 42, _, _, _, _, _⟩) (v := ?_) rfl (by kernel_rfl) (by kernel_rfl) (by kernel_rfl) (fun _ _ _ h => h) (Or.inl ⟨by rfl, ?_⟩) hHeld ?_
        rotate_left
        · (intro w hSw; obtain ⟨t0, t1, t2, t3, t4, t5, t6, t7⟩ := hSw; go_simp; try with_reducible rfl)
        try simp only [Act.put, List.setIfInBounds_toArray, List.set_cons_zero, List.set_cons_succ]
        refine wpAnyH_take (i := 5) (oi := ⟨some 45, _, _, _, _, _⟩) (v := ?_) rfl (by kernel_rfl) (by kernel_rfl) (by kernel_rfl) (fun _ _ _ h => h) (Or.inl ⟨by rfl, ?_⟩) hHeld ?_
        rotate_left
        · (intro w hSw; obtain ⟨t0, t1, t2, t3, t4, t5, t6, t7⟩ := hSw; go_simp; try with_reducible rfl)
        try simp only [Act.put, List.setIfInBounds_toArray, List.set_cons_zero, List.set_cons_succ]
        refine wpAnyH_take (i := 6) (oi := ⟨some 46, _, _, _, _, _⟩) (v := ?_) rfl (by kernel_rfl) (by kernel_rfl) (by kernel_rfl) (fun _ _ _ h => h) (Or.inl ⟨by rfl, ?_⟩) hHeld ?_
        rotate_left
        · (intro w hSw; obtain ⟨t0, t1, t2, t3, t4, t5, t6, t7⟩ := hSw; go_simp; try with_reducible rfl)
        try simp only [Act.put, List.setIfInBounds_toArray, List.set_cons_zero, List.set_cons_succ]
        refine wpAnyH_take (i := 7) (oi := ⟨some 47, _, _, _, _, _⟩) (v := ?_) rfl (by kernel_rfl) (by kernel_rfl) (by kernel_rfl) (fun _ _ _ h => h) (Or.inl ⟨by rfl, ?_⟩) hHeld ?_
        rotate_left
        · (intro w hSw; obtain ⟨t0, t1, t2, t3, t4, t5, t6, t7⟩ := hSw; go_simp; try with_reducible rfl)
        try simp only [Act.put, List.setIfInBounds_toArray, List.set_cons_zero, List.set_cons_succ]
        refine wpAnyH_take (i := 8) (oi := ⟨some 48, _, _, _, _, _⟩) (v := ?_) rfl (by kernel_rfl) (by kernel_rfl) (by kernel_rfl) (fun _ _ _ h => h) (Or.inl ⟨by rfl, ?_⟩) hHeld ?_
        rotate_left
        · (intro w hSw; obtain ⟨t0, t1, t2, t3, t4, t5, t6, t7⟩ := hSw; go_simp; try with_reducible rfl)
        try simp only [Act.put, List.setIfInBounds_toArray, List.set_cons_zero, List.set_cons_succ]
        refine wpAnyH_ready (rs := [1]) (by kernel_rfl) (by simp) ?_
        refine AllReadyH.cons (o := ⟨some 41, _, _, _, _, _⟩) rfl (fun K hK => ?_) AllReadyH.nil
        go_simp
        go_at_call 131
        refine (CLD.out _).mono ?_
        rintro r0 w7 ⟨rfl, hbf⟩
        have HB7 : Hid (Below W.heap.size W w7) := hid (bCl (Below.refl _ _) (by first | exact hbf | exact bDr hbf))
        clear hbf
        have hS1 := KS.out w7 HB7.out
        go_wp2_with fail
        refine hK.out _ _ hS1 (fun hHeld2 => ?_)
        clear hK K hHeld hS1
        have hHeld := hHeld2
        clear hHeld2
        try simp only [Act.put, List.setIfInBounds_toArray, List.set_cons_zero, List.set_cons_succ]
        refine wpAnyH_ready (rs := [3]) (by kernel_rfl) (by simp) ?_
        refine AllReadyH.cons (o := ⟨some 43, _, _, _, _, _⟩) rfl (fun K hK => ?_) AllReadyH.nil
        go_simp
        go_at_call 131
        refine (CLE.out _).mono ?_
        rintro r0 w8 ⟨rfl, hbf⟩
        have HB8 : Hid (Below W.heap.size W w8) := hid (bCl HB7.out (by first | exact hbf | exact bDr hbf))
        clear hbf
        have hS1 := KS.out w8 HB8.out
        go_wp2_with fail
        refine hK.out _ _ hS1 (fun hHeld2 => ?_)
        clear hK K hHeld hS1
        have hHeld := hHeld2
        clear hHeld2
        try simp only [Act.put, List.setIfInBounds_toArray, List.set_cons_zero, List.set_cons_succ]
        refine wpAnyH_ready (rs := [4]) (by kernel_rfl) (by simp) ?_
        refine AllReadyH.cons (o := ⟨some 44, _, _, _, _, _⟩) rfl (fun K hK => ?_) AllReadyH.nil
        go_simp
        go_at_call 130
        refine (CD1.out _).mono ?_
        rintro r0 w9 ⟨rfl, rfl⟩
        have hS1 := KS.out w8 HB8.out
        go_wp2_with fail
        refine hK.out _ _ hS1 (fun hHeld2 => ?_)
        clear hK K hHeld hS1
        have hHeld := hHeld2
        clear hHeld2
        try simp only [Act.put, List.setIfInBounds_toArray, List.set_cons_zero, List.set_cons_succ]
        refine wpAnyH_ready (rs := [9]) (by kernel_rfl) (by simp) ?_
        refine AllReadyH.cons (o := ⟨some 49, _, _, _, _, _⟩) rfl (fun K hK => ?_) AllReadyH.nil
        go_simp
        go_at_call 130
        refine (CD2.out _).mono ?_
        rintro r0 w9 ⟨rfl, rfl⟩
        have hS1 := KS.out w8 HB8.out
        go_wp2_with fail
        refine hK.out _ _ hS1 (fun hHeld2 => ?_)
        clear hK K hHeld hS1
        have hHeld := hHeld2
        clear hHeld2
        try simp only [Act.put, List.setIfInBounds_toArray, List.set_cons_zero, List.set_cons_succ]
        refine wpAnyH_take (i := 10) (oi := ⟨some 50, _, _, _, _, _⟩) (v := ?_) rfl (by kernel_rfl) (by kernel_rfl) (by kernel_rfl) (fun _ _ _ h => h) (Or.inl ⟨by rfl, ?_⟩) hHeld ?_
        rotate_left
        · (intro w hSw; obtain ⟨t0, t1, t2, t3, t4, t5, t6, t7⟩ := hSw; go_simp; try with_reducible rfl)
        try simp only [Act.put, List.setIfInBounds_toArray, List.set_cons_zero, List.set_cons_succ]
        refine wpAnyH_take (i := 11) (oi := ⟨some 51, _, _, _, _, _⟩) (v := ?_) rfl (by kernel_rfl) (by kernel_rfl) (by kernel_rfl) (fun _ _ _ h => h) (Or.inl ⟨by rfl, ?_⟩) hHeld ?_
        rotate_left
        · (intro w hSw; obtain ⟨t0, t1, t2, t3, t4, t5, t6, t7⟩ := hSw; go_simp; try with_reducible rfl)
        try simp only [Act.put, List.setIfInBounds_toArray, List.set_cons_zero, List.set_cons_succ]
        refine wpAnyH_take (i := 12) (oi := ⟨some 13, _, _, _, _, _⟩) (v := ?_) rfl (by kernel_rfl) (by kernel_rfl) (by kernel_rfl) (fun _ _ _ h => h) (Or.inl ⟨by rfl, ?_⟩) hHeld ?_
        rotate_left
        · (intro w hSw; obtain ⟨t0, t1, t2, t3, t4, t5, t6, t7⟩ := hSw; go_simp; try with_reducible rfl)
        try simp only [Act.put, List.setIfInBounds_toArray, List.set_cons_zero, List.set_cons_succ]
        refine wpAnyH_done (by kernel_rfl) ?_ _
        clear hHeld
        obtain ⟨hc1, hf1, hc2, hf2, hs1, hs2, hs3, hs4, hs5, hs6, hs7, hs8⟩ := KQ.out w8 HB8.out
        gi_wp2_with fail
        generalize hWE : (w8.setCell _ (.slice (some ⟨g', o', none⟩) n' c')).setCell _ (.int .i64 fd) = WE
        have e1 : WE.cell? ⟨w2.heap.size + 1, 0, none⟩ = some (.slice (some ⟨g', o', none⟩) n' c') := by rw [← hWE]; clear hWE; go_simp
        have e2 : WE.cell? ⟨w2.heap.size + 2, 0, none⟩ = some (.int .i64 fd) := by rw [← hWE]; clear hWE; go_simp
        have e3 : WE.frozen? ⟨w2.heap.size + 1, 0, none⟩ = false := by rw [← hWE]; clear hWE; simp [World.frozen?_setCell, hf1]
        have e4 : WE.frozen? ⟨w2.heap.size + 2, 0, none⟩ = false := by rw [← hWE]; clear hWE; simp [World.frozen?_setCell, hf2]
        have e5 : WE.cell? ⟨w2.heap.size, 0, none⟩ = some (.slice A7 (q.length + 1) c7) := by rw [← hWE]; clear hWE; go_simp
        have e6 : WE.cell? ⟨w2.heap.size, 1, none⟩ = some (.int .i64 ex) := by rw [← hWE]; clear hWE; go_simp
        have e7 : WE.cell? ⟨w2.heap.size, 2, none⟩ = some (.int .i64 et) := by rw [← hWE]; clear hWE; go_simp
        have e8 : WE.cell? ⟨w2.heap.size, 3, none⟩ = some (.int .i64 eb) := by rw [← hWE]; clear hWE; go_simp
        have hB := HB8.out
        have hKO : KeepsOthers W w8 := ⟨hB.size, fun k o hk _ => (hB.block _ (Array.getElem?_eq_some_iff.1 hk).1).trans hk⟩
        have hn := HBN.out
        refine ⟨by rw [← hWE]; exact hKO.trans ((KeepsOthers.setCell _ _ _).trans (KeepsOthers.setCell _ _ _)), by rw [← hWE]; exact (But.of_below hB (HGD.out W HWS.out)).trans ((But.setCell (V := VV X4.heap.size (X4.heap.size + 4)) w8 (p := ⟨w2.heap.size + 1, 0, none⟩) (.inl (by show _ ≤ _ ∧ _ < _; simp only; omega)) _).trans (But.setCell (V := VV X4.heap.size (X4.heap.size + 4)) _ (p := ⟨w2.heap.size + 2, 0, none⟩) (.inl (by show _ ≤ _ ∧ _ < _; simp only; omega)) _)), ?_⟩
        dsimp only
        rw [HST.out]
        refine ⟨by rw [← hWE]; exact ((HBW.out.trans (hB.mono HBW.out.size)).setCell (p := ⟨w2.heap.size + 1, 0, none⟩) (by simp only; omega) _).setCell (p := ⟨w2.heap.size + 2, 0, none⟩) (by simp only; omega) _, ⟨e1, e3⟩, ⟨?_, e4⟩, e5, e6, e7, e8⟩
        rw [e2, ← HFD.out]
        rfl
      | some y =>
        obtain ⟨gy, oy, cy, hyv, hys⟩ := HMEM.out y hlb
        have hfy := HFY.out y hys
        rw [hlb] at hc1 hc2
        simp only [bestV, bestN] at hc1 hc2
        rw [hyv] at hc1
        obtain ⟨fy, hfyv⟩ : ∃ f, farS y.1 ⟨ep, ex, et, eb⟩ = f := ⟨_, rfl⟩
        rw [hfyv] at hc2
        generalize hny : y.1.pos.length = ny at *
        have KQ : Hid (∀ w', Below W.heap.size W w' → w'.cell? ⟨w2.heap.size + 1, 0, none⟩ = some (.slice (some ⟨gy, oy, none⟩) ny cy) ∧ w'.frozen? ⟨w2.heap.size + 1, 0, none⟩ = false ∧ w'.cell? ⟨w2.heap.size + 2, 0, none⟩ = some (.int .i64 fy) ∧ w'.frozen? ⟨w2.heap.size + 2, 0, none⟩ = false ∧ w'.cell? ⟨gb, 0, none⟩ = some (.slice (some ⟨g', o', none⟩) n' c') ∧ w'.cell? ⟨gb, 1, none⟩ = some (.int .i64 dx) ∧ w'.cell? ⟨gb, 2, none⟩ = some (.int .i64 dt) ∧ w'.cell? ⟨gb, 3, none⟩ = some (.int .i64 db) ∧ w'.cell? ⟨w2.heap.size, 0, none⟩ = some (.slice A7 (q.length + 1) c7) ∧ w'.cell? ⟨w2.heap.size, 1, none⟩ = some (.int .i64 ex) ∧ w'.cell? ⟨w2.heap.size, 2, none⟩ = some (.int .i64 et) ∧ w'.cell? ⟨w2.heap.size, 3, none⟩ = some (.int .i64 eb)) := fun W' hW => ⟨(hW.cell (p := ⟨_, _, none⟩) hl1).trans hc1, (hW.frozen (p := ⟨_, _, none⟩) hl1).trans hf1, (hW.cell (p := ⟨_, _, none⟩) hl2).trans hc2, (hW.frozen (p := ⟨_, _, none⟩) hl2).trans hf2, KS.out W' hW⟩
        by_cases hlt : fd < fy
        · have i1 : decide (fd < fy) = true := decide_eq_true hlt
          have HST : Hid (leastBy (fun x : CarV => farS x.1 ⟨ep, ex, et, eb⟩) (pre ++ [((⟨dp, dx, dt, db⟩, .slice (some ⟨g', o', none⟩) n' c') : CarV)]) = some (⟨dp, dx, dt, db⟩, .slice (some ⟨g', o', none⟩) n' c')) := by
            show _ = _
            rw [HST0.out, hlb, leastStep]
            simp only
            rw [HFD.out, hfyv, if_pos hlt]
          clear HST0 hlb HMEM HFY hc1 hf1 hc2 hf2 g0 g1 g2 g3 f0 f1 f2 f3 hlt hfyv hny hyv hys hfy
          obtain ⟨g0, g1, g2, g3, f0, f1, f2, f3⟩ := KS.out W (Below.refl _ _)
          gi_upto_region 12 with fail
          refine region_round (S := fun w' => w'.cell? ⟨gb, 0, none⟩ = some (.slice (some ⟨g', o', none⟩) n' c') ∧ w'.cell? ⟨gb, 1, none⟩ = some (.int .i64 dx) ∧ w'.cell? ⟨gb, 2, none⟩ = some (.int .i64 dt) ∧ w'.cell? ⟨gb, 3, none⟩ = some (.int .i64 db) ∧ w'.cell? ⟨w2.heap.size, 0, none⟩ = some (.slice A7 (q.length + 1) c7) ∧ w'.cell? ⟨w2.heap.size, 1, none⟩ = some (.int .i64 ex) ∧ w'.cell? ⟨w2.heap.size, 2, none⟩ = some (.int .i64 et) ∧ w'.cell? ⟨w2.heap.size, 3, none⟩ = some (.int .i64 eb)) (by kernel_rfl) (noDefer_of (by kernel_rfl)) (fun _ _ h => h) (KS.out _ (Below.refl _ _).drew) (fun hHeld => ?_)
          refine wpAnyH_take (i := 0) (oi := ⟨some 40, _, _, _, _, _⟩) (v := ?_) rfl (by kernel_rfl) (by kernel_rfl) (by kernel_rfl) (fun _ _ _ h => h) (Or.inl ⟨by rfl, ?_⟩) hHeld ?_
          rotate_left
          · (intro w hSw; obtain ⟨t0, t1, t2, t3, t4, t5, t6, t7⟩ := hSw; go_simp; try with_reducible rfl)
          try simp only [Act.put, List.setIfInBounds_toArray, List.set_cons_zero, List.set_cons_succ]
          refine wpAnyH_take (i := 2) (oi := ⟨some 42, _, _, _, _, _⟩) (v := ?_) rfl (by kernel_rfl) (by kernel_rfl) (by kernel_rfl) (fun _ _ _ h => h) (Or.inl ⟨by rfl, ?_⟩) hHeld ?_
          rotate_left
          · (intro w hSw; obtain ⟨t0, t1, t2, t3, t4, t5, t6, t7⟩ := hSw; go_simp; try with_reducible rfl)
          try simp only [Act.put, List.setIfInBounds_toArray, List.set_cons_zero, List.set_cons_succ]
          refine wpAnyH_take (i := 5) (oi := ⟨some 45, _, _, _, _, _⟩) (v := ?_) rfl (by kernel_rfl) (by kernel_rfl) (by kernel_rfl) (fun _ _ _ h => h) (Or.inl ⟨by rfl, ?_⟩) hHeld ?_
          rotate_left
          · (intro w hSw; obtain ⟨t0, t1, t2, t3, t4, t5, t6, t7⟩ := hSw; go_simp; try with_reducible rfl)
          try simp only [Act.put, List.setIfInBounds_toArray, List.set_cons_zero, List.set_cons_succ]
          refine wpAnyH_take (i := 6) (oi := ⟨some 46, _, _, _, _, _⟩) (v := ?_) rfl (by kernel_rfl) (by kernel_rfl) (by kernel_rfl) (fun _ _ _ h => h) (Or.inl ⟨by rfl, ?_⟩) hHeld ?_
          rotate_left
          · (intro w hSw; obtain ⟨t0, t1, t2, t3, t4, t5, t6, t7⟩ := hSw; go_simp; try with_reducible rfl)
          try simp only [Act.put, List.setIfInBounds_toArray, List.set_cons_zero, List.set_cons_succ]
          refine wpAnyH_take (i := 7) (oi := ⟨some 47, _, _, _, _, _⟩) (v := ?_) rfl (by kernel_rfl) (by kernel_rfl) (by kernel_rfl) (fun _ _ _ h => h) (Or.inl ⟨by rfl, ?_⟩) hHeld ?_
          rotate_left
          · (intro w hSw; obtain ⟨t0, t1, t2, t3, t4, t5, t6, t7⟩ := hSw; go_simp; try with_reducible rfl)
          try simp only [Act.put, List.setIfInBounds_toArray, List.set_cons_zero, List.set_cons_succ]
          refine wpAnyH_take (i := 8) (oi := ⟨some 48, _, _, _, _, _⟩) (v := ?_) rfl (by kernel_rfl) (by kernel_rfl) (by kernel_rfl) (fun _ _ _ h => h) (Or.inl ⟨by rfl, ?_⟩) hHeld ?_
          rotate_left
          · (intro w hSw; obtain ⟨t0, t1, t2, t3, t4, t5, t6, t7⟩ := hSw; go_simp; try with_reducible rfl)
          try simp only [Act.put, List.setIfInBounds_toArray, List.set_cons_zero, List.set_cons_succ]
          refine wpAnyH_ready (rs := [1]) (by kernel_rfl) (by simp) ?_
          refine AllReadyH.cons (o := ⟨some 41, _, _, _, _, _⟩) rfl (fun K hK => ?_) AllReadyH.nil
          go_simp
          go_at_call 131
          refine (CLD.out _).mono ?_
          rintro r0 w7 ⟨rfl, hbf⟩
          have HB7 : Hid (Below W.heap.size W w7) := hid (bCl (Below.refl _ _) (by first | exact hbf | exact bDr hbf))
          clear hbf
          have hS1 := KS.out w7 HB7.out
          go_wp2_with fail
          refine hK.out _ _ hS1 (fun hHeld2 => ?_)
          clear hK K hHeld hS1
          have hHeld := hHeld2
          clear hHeld2
          try simp only [Act.put, List.setIfInBounds_toArray, List.set_cons_zero, List.set_cons_succ]
          refine wpAnyH_ready (rs := [3]) (by kernel_rfl) (by simp) ?_
          refine AllReadyH.cons (o := ⟨some 43, _, _, _, _, _⟩) rfl (fun K hK => ?_) AllReadyH.nil
          go_simp
          go_at_call 131
          refine (CLE.out _).mono ?_
          rintro r0 w8 ⟨rfl, hbf⟩
          have HB8 : Hid (Below W.heap.size W w8) := hid (bCl HB7.out (by first | exact hbf | exact bDr hbf))
          clear hbf
          have hS1 := KS.out w8 HB8.out
          go_wp2_with fail
          refine hK.out _ _ hS1 (fun hHeld2 => ?_)
          clear hK K hHeld hS1
          have hHeld := hHeld2
          clear hHeld2
          try simp only [Act.put, List.setIfInBounds_toArray, List.set_cons_zero, List.set_cons_succ]
          refine wpAnyH_ready (rs := [4]) (by kernel_rfl) (by simp) ?_
          refine AllReadyH.cons (o := ⟨some 44, _, _, _, _, _⟩) rfl (fun K hK => ?_) AllReadyH.nil
          go_simp
          go_at_call 130
          refine (CD1.out _).mono ?_
          rintro r0 w9 ⟨rfl, rfl⟩
          have hS1 := KS.out w8 HB8.out
          go_wp2_with fail
          refine hK.out _ _ hS1 (fun hHeld2 => ?_)
          clear hK K hHeld hS1
          have hHeld := hHeld2
          clear hHeld2
          try simp only [Act.put, List.setIfInBounds_toArray, List.set_cons_zero, List.set_cons_succ]
          refine wpAnyH_ready (rs := [9]) (by kernel_rfl) (by simp) ?_
          refine AllReadyH.cons (o := ⟨some 49, _, _, _, _, _⟩) rfl (fun K hK => ?_) AllReadyH.nil
          go_simp
          go_at_call 130
          refine (CD2.out _).mono ?_
          rintro r0 w9 ⟨rfl, rfl⟩
          have hS1 := KS.out w8 HB8.out
          go_wp2_with fail
          refine hK.out _ _ hS1 (fun hHeld2 => ?_)
          clear hK K hHeld hS1
          have hHeld := hHeld2
          clear hHeld2
          try simp only [Act.put, List.setIfInBounds_toArray, List.set_cons_zero, List.set_cons_succ]
          refine wpAnyH_take (i := 10) (oi := ⟨some 50, _, _, _, _, _⟩) (v := ?_) rfl (by kernel_rfl) (by kernel_rfl) (by kernel_rfl) (fun _ _ _ h => h) (Or.inl ⟨by rfl, ?_⟩) hHeld ?_
          rotate_left
          · (intro w hSw; obtain ⟨t0, t1, t2, t3, t4, t5, t6, t7⟩ := hSw; go_simp; try with_reducible rfl)
          try simp only [Act.put, List.setIfInBounds_toArray, List.set_cons_zero, List.set_cons_succ]
          refine wpAnyH_take (i := 11) (oi := ⟨some 51, _, _, _, _, _⟩) (v := ?_) rfl (by kernel_rfl) (by kernel_rfl) (by kernel_rfl) (fun _ _ _ h => h) (Or.inl ⟨by rfl, ?_⟩) hHeld ?_
          rotate_left
          · (intro w hSw; obtain ⟨t0, t1, t2, t3, t4, t5, t6, t7⟩ := hSw; go_simp; try with_reducible rfl)
          try simp only [Act.put, List.setIfInBounds_toArray, List.set_cons_zero, List.set_cons_succ]
          refine wpAnyH_take (i := 12) (oi := ⟨some 13, _, _, _, _, _⟩) (v := ?_) rfl (by kernel_rfl) (by kernel_rfl) (by kernel_rfl) (fun _ _ _ h => h) (Or.inl ⟨by rfl, ?_⟩) hHeld ?_
          rotate_left
          · (intro w hSw; obtain ⟨t0, t1, t2, t3, t4, t5, t6, t7⟩ := hSw; go_simp; try with_reducible rfl)
          try simp only [Act.put, List.setIfInBounds_toArray, List.set_cons_zero, List.set_cons_succ]
          refine wpAnyH_done (by kernel_rfl) ?_ _
          clear hHeld
          obtain ⟨hc1, hf1, hc2, hf2, hs1, hs2, hs3, hs4, hs5, hs6, hs7, hs8⟩ := KQ.out w8 HB8.out
          gi_wp2_with fail
          generalize hWE : (w8.setCell _ (.slice (some ⟨g', o', none⟩) n' c')).setCell _ (.int .i64 fd) = WE
          have e1 : WE.cell? ⟨w2.heap.size + 1, 0, none⟩ = some (.slice (some ⟨g', o', none⟩) n' c') := by rw [← hWE]; clear hWE; go_simp
          have e2 : WE.cell? ⟨w2.heap.size + 2, 0, none⟩ = some (.int .i64 fd) := by rw [← hWE]; clear hWE; go_simp
          have e3 : WE.frozen? ⟨w2.heap.size + 1, 0, none⟩ = false := by rw [← hWE]; clear hWE; simp [World.frozen?_setCell, hf1]
          have e4 : WE.frozen? ⟨w2.heap.size + 2, 0, none⟩ = false := by rw [← hWE]; clear hWE; simp [World.frozen?_setCell, hf2]
          have e5 : WE.cell? ⟨w2.heap.size, 0, none⟩ = some (.slice A7 (q.length + 1) c7) := by rw [← hWE]; clear hWE; go_simp
          have e6 : WE.cell? ⟨w2.heap.size, 1, none⟩ = some (.int .i64 ex) := by rw [← hWE]; clear hWE; go_simp
          have e7 : WE.cell? ⟨w2.heap.size, 2, none⟩ = some (.int .i64 et) := by rw [← hWE]; clear hWE; go_simp
          have e8 : WE.cell? ⟨w2.heap.size, 3, none⟩ = some (.int .i64 eb) := by rw [← hWE]; clear hWE; go_simp
          have hB := HB8.out
          have hKO : KeepsOthers W w8 := ⟨hB.size, fun k o hk _ => (hB.block _ (Array.getElem?_eq_some_iff.1 hk).1).trans hk⟩
          have hn := HBN.out
          refine ⟨by rw [← hWE]; exact hKO.trans ((KeepsOthers.setCell _ _ _).trans (KeepsOthers.setCell _ _ _)), by rw [← hWE]; exact (But.of_below hB (HGD.out W HWS.out)).trans ((But.setCell (V := VV X4.heap.size (X4.heap.size + 4)) w8 (p := ⟨w2.heap.size + 1, 0, none⟩) (.inl (by show _ ≤ _ ∧ _ < _; simp only; omega)) _).trans (But.setCell (V := VV X4.heap.size (X4.heap.size + 4)) _ (p := ⟨w2.heap.size + 2, 0, none⟩) (.inl (by show _ ≤ _ ∧ _ < _; simp only; omega)) _)), ?_⟩
          dsimp only
          rw [HST.out]
          refine ⟨by rw [← hWE]; exact ((HBW.out.trans (hB.mono HBW.out.size)).setCell (p := ⟨w2.heap.size + 1, 0, none⟩) (by simp only; omega) _).setCell (p := ⟨w2.heap.size + 2, 0, none⟩) (by simp only; omega) _, ⟨e1, e3⟩, ⟨?_, e4⟩, e5, e6, e7, e8⟩
          rw [e2, ← HFD.out]
          rfl
        · have i1 : decide (fd < fy) = false := decide_eq_false hlt
          have HST : Hid (leastBy (fun x : CarV => farS x.1 ⟨ep, ex, et, eb⟩) (pre ++ [((⟨dp, dx, dt, db⟩, .slice (some ⟨g', o', none⟩) n' c') : CarV)]) = some y) := by
            show _ = _
            rw [HST0.out, hlb, leastStep]
            simp only
            rw [HFD.out, hfyv, if_neg hlt]
          have HYV : Hid (bestV (some y) = .slice (some ⟨gy, oy, none⟩) ny cy ∧ bestN (farS · ⟨ep, ex, et, eb⟩) (some y) = fy) := ⟨hyv, hfyv⟩
          clear HST0 hlb HMEM HFY hc1 hf1 hc2 hf2 g0 g1 g2 g3 f0 f1 f2 f3 hlt hfyv hny hyv hys hfy
          obtain ⟨g0, g1, g2, g3, f0, f1, f2, f3⟩ := KS.out W (Below.refl _ _)
          gi_upto_region 12 with fail
          refine region_round (S := fun w' => w'.cell? ⟨gb, 0, none⟩ = some (.slice (some ⟨g', o', none⟩) n' c') ∧ w'.cell? ⟨gb, 1, none⟩ = some (.int .i64 dx) ∧ w'.cell? ⟨gb, 2, none⟩ = some (.int .i64 dt) ∧ w'.cell? ⟨gb, 3, none⟩ = some (.int .i64 db) ∧ w'.cell? ⟨w2.heap.size, 0, none⟩ = some (.slice A7 (q.length + 1) c7) ∧ w'.cell? ⟨w2.heap.size, 1, none⟩ = some (.int .i64 ex) ∧ w'.cell? ⟨w2.heap.size, 2, none⟩ = some (.int .i64 et) ∧ w'.cell? ⟨w2.heap.size, 3, none⟩ = some (.int .i64 eb)) (by kernel_rfl) (noDefer_of (by kernel_rfl)) (fun _ _ h => h) (KS.out _ (Below.refl _ _).drew) (fun hHeld => ?_)
          refine wpAnyH_take (i := 0) (oi := ⟨some 40, _, _, _, _, _⟩) (v := ?_) rfl (by kernel_rfl) (by kernel_rfl) (by kernel_rfl) (fun _ _ _ h => h) (Or.inl ⟨by rfl, ?_⟩) hHeld ?_
          rotate_left
          · (intro w hSw; obtain ⟨t0, t1, t2, t3, t4, t5, t6, t7⟩ := hSw; go_simp; try with_reducible rfl)
          try simp only [Act.put, List.setIfInBounds_toArray, List.set_cons_zero, List.set_cons_succ]
          refine wpAnyH_take (i := 2) (oi := ⟨some 42, _, _, _, _, _⟩) (v := ?_) rfl (by kernel_rfl) (by kernel_rfl) (by kernel_rfl) (fun _ _ _ h => h) (Or.inl ⟨by rfl, ?_⟩) hHeld ?_
          rotate_left
          · (intro w hSw; obtain ⟨t0, t1, t2, t3, t4, t5, t6, t7⟩ := hSw; go_simp; try with_reducible rfl)
          try simp only [Act.put, List.setIfInBounds_toArray, List.set_cons_zero, List.set_cons_succ]
          refine wpAnyH_take (i := 5) (oi := ⟨some 45, _, _, _, _, _⟩) (v := ?_) rfl (by kernel_rfl) (by kernel_rfl) (by kernel_rfl) (fun _ _ _ h => h) (Or.inl ⟨by rfl, ?_⟩) hHeld ?_
          rotate_left
          · (intro w hSw; obtain ⟨t0, t1, t2, t3, t4, t5, t6, t7⟩ := hSw; go_simp; try with_reducible rfl)
          try simp only [Act.put, List.setIfInBounds_toArray, List.set_cons_zero, List.set_cons_succ]
          refine wpAnyH_take (i := 6) (oi := ⟨some 46, _, _, _, _, _⟩) (v := ?_) rfl (by kernel_rfl) (by kernel_rfl) (by kernel_rfl) (fun _ _ _ h => h) (Or.inl ⟨by rfl, ?_⟩) hHeld ?_
          rotate_left
          · (intro w hSw; obtain ⟨t0, t1, t2, t3, t4, t5, t6, t7⟩ := hSw; go_simp; try with_reducible rfl)
          try simp only [Act.put, List.setIfInBounds_toArray, List.set_cons_zero, List.set_cons_succ]
          refine wpAnyH_take (i := 7) (oi := ⟨some 47, _, _, _, _, _⟩) (v := ?_) rfl (by kernel_rfl) (by kernel_rfl) (by kernel_rfl) (fun _ _ _ h => h) (Or.inl ⟨by rfl, ?_⟩) hHeld ?_
          rotate_left
          · (intro w hSw; obtain ⟨t0, t1, t2, t3, t4, t5, t6, t7⟩ := hSw; go_simp; try with_reducible rfl)
          try simp only [Act.put, List.setIfInBounds_toArray, List.set_cons_zero, List.set_cons_succ]
          refine wpAnyH_take (i := 8) (oi := ⟨some 48, _, _, _, _, _⟩) (v := ?_) rfl (by kernel_rfl) (by kernel_rfl) (by kernel_rfl) (fun _ _ _ h => h) (Or.inl ⟨by rfl, ?_⟩) hHeld ?_
          rotate_left
          · (intro w hSw; obtain ⟨t0, t1, t2, t3, t4, t5, t6, t7⟩ := hSw; go_simp; try with_reducible rfl)
          try simp only [Act.put, List.setIfInBounds_toArray, List.set_cons_zero, List.set_cons_succ]
          refine wpAnyH_ready (rs := [1]) (by kernel_rfl) (by simp) ?_
          refine AllReadyH.cons (o := ⟨some 41, _, _, _, _, _⟩) rfl (fun K hK => ?_) AllReadyH.nil
          go_simp
          go_at_call 131
          refine (CLD.out _).mono ?_
          rintro r0 w7 ⟨rfl, hbf⟩
          have HB7 : Hid (Below W.heap.size W w7) := hid (bCl (Below.refl _ _) (by first | exact hbf | exact bDr hbf))
          clear hbf
          have hS1 := KS.out w7 HB7.out
          go_wp2_with fail
          refine hK.out _ _ hS1 (fun hHeld2 => ?_)
          clear hK K hHeld hS1
          have hHeld := hHeld2
          clear hHeld2
          try simp only [Act.put, List.setIfInBounds_toArray, List.set_cons_zero, List.set_cons_succ]
          refine wpAnyH_ready (rs := [3]) (by kernel_rfl) (by simp) ?_
          refine AllReadyH.cons (o := ⟨some 43, _, _, _, _, _⟩) rfl (fun K hK => ?_) AllReadyH.nil
          go_simp
          go_at_call 131
          refine (CLE.out _).mono ?_
          rintro r0 w8 ⟨rfl, hbf⟩
          have HB8 : Hid (Below W.heap.size W w8) := hid (bCl HB7.out (by first | exact hbf | exact bDr hbf))
          clear hbf
          have hS1 := KS.out w8 HB8.out
          go_wp2_with fail
          refine hK.out _ _ hS1 (fun hHeld2 => ?_)
          clear hK K hHeld hS1
          have hHeld := hHeld2
          clear hHeld2
          try simp only [Act.put, List.setIfInBounds_toArray, List.set_cons_zero, List.set_cons_succ]
          refine wpAnyH_ready (rs := [4]) (by kernel_rfl) (by simp) ?_
          refine AllReadyH.cons (o := ⟨some 44, _, _, _, _, _⟩) rfl (fun K hK => ?_) AllReadyH.nil
          go_simp
          go_at_call 130
          refine (CD1.out _).mono ?_
          rintro r0 w9 ⟨rfl, rfl⟩
          have hS1 := KS.out w8 HB8.out
          go_wp2_with fail
          refine hK.out _ _ hS1 (fun hHeld2 => ?_)
          clear hK K hHeld hS1
          have hHeld := hHeld2
          clear hHeld2
          try simp only [Act.put, List.setIfInBounds_toArray, List.set_cons_zero, List.set_cons_succ]
          refine wpAnyH_ready (rs := [9]) (by kernel_rfl) (by simp) ?_
          refine AllReadyH.cons (o := ⟨some 49, _, _, _, _, _⟩) rfl (fun K hK => ?_) AllReadyH.nil
          go_simp
          go_at_call 130
          refine (CD2.out _).mono ?_
          rintro r0 w9 ⟨rfl, rfl⟩
          have hS1 := KS.out w8 HB8.out
          go_wp2_with fail
          refine hK.out _ _ hS1 (fun hHeld2 => ?_)
          clear hK K hHeld hS1
          have hHeld := hHeld2
          clear hHeld2
          try simp only [Act.put, List.setIfInBounds_toArray, List.set_cons_zero, List.set_cons_succ]
          refine wpAnyH_take (i := 10) (oi := ⟨some 50, _, _, _, _, _⟩) (v := ?_) rfl (by kernel_rfl) (by kernel_rfl) (by kernel_rfl) (fun _ _ _ h => h) (Or.inl ⟨by rfl, ?_⟩) hHeld ?_
          rotate_left
          · (intro w hSw; obtain ⟨t0, t1, t2, t3, t4, t5, t6, t7⟩ := hSw; go_simp; try with_reducible rfl)
          try simp only [Act.put, List.setIfInBounds_toArray, List.set_cons_zero, List.set_cons_succ]
          refine wpAnyH_take (i := 11) (oi := ⟨some 51, _, _, _, _, _⟩) (v := ?_) rfl (by kernel_rfl) (by kernel_rfl) (by kernel_rfl) (fun _ _ _ h => h) (Or.inl ⟨by rfl, ?_⟩) hHeld ?_
          rotate_left
          · (intro w hSw; obtain ⟨t0, t1, t2, t3, t4, t5, t6, t7⟩ := hSw; go_simp; try with_reducible rfl)
          try simp only [Act.put, List.setIfInBounds_toArray, List.set_cons_zero, List.set_cons_succ]
          refine wpAnyH_take (i := 12) (oi := ⟨some 13, _, _, _, _, _⟩) (v := ?_) rfl (by kernel_rfl) (by kernel_rfl) (by kernel_rfl) (fun _ _ _ h => h) (Or.inl ⟨by rfl, ?_⟩) hHeld ?_
          rotate_left
          · (intro w hSw; obtain ⟨t0, t1, t2, t3, t4, t5, t6, t7⟩ := hSw; go_simp; try with_reducible rfl)
          try simp only [Act.put, List.setIfInBounds_toArray, List.set_cons_zero, List.set_cons_succ]
          refine wpAnyH_done (by kernel_rfl) ?_ _
          clear hHeld
          obtain ⟨hc1, hf1, hc2, hf2, hs1, hs2, hs3, hs4, hs5, hs6, hs7, hs8⟩ := KQ.out w8 HB8.out
          gi_wp2_with fail
          have hB := HB8.out
          have hKO : KeepsOthers W w8 := ⟨hB.size, fun k o hk _ => (hB.block _ (Array.getElem?_eq_some_iff.1 hk).1).trans hk⟩
          refine ⟨hKO, But.of_below hB (HGD.out W HWS.out), ?_⟩
          dsimp only
          rw [HST.out, HYV.out.1, HYV.out.2]
          exact ⟨HBW.out.trans (hB.mono HBW.out.size), ⟨hc1, hf1⟩, ⟨hc2, hf2⟩, hs5, hs6, hs7, hs8⟩
    case done =>
      rintro D xs W hD hxs ⟨hb, ⟨hc1, hf1⟩, ⟨hc2, hf2⟩, _, _, _, _⟩ hK
      rw [hxs] at hc1
      have HB := hid hb
      have hbD : Below w.heap.size w (W.putObj D (.deferred none)) := by
        have h1 : Below w.heap.size w W := bCl (KB.out w1 HB1.out).2.1 hb
        exact h1.trans (belowK_b (w := w5) (by have := HB05.out.size; omega) W D _ (.deferred none) (by omega) hK rfl rfl)
      have hbW1 : Below w1.heap.size w1 (W.putObj D (.deferred none)) := hb.trans (belowK_b (w := w5) (by have := HB15.out.size; omega) W D _ (.deferred none) (by omega) hK rfl rfl)
      have HBD := hid hbD
      have HBW1 := hid hbW1
      clear hb hbD hbW1 hxs hc2 hf2
      cases hl : leastBy (fun x : CarV => farS x.1 e) CL with
      | none =>
        have HR : Hid (r = ([], 8)) := by show _ = _; rw [HRES.out, hl]; rfl
        rw [hl] at hc1
        simp only [bestV] at hc1
        have hn := fun w => Lib.run_eql_slice_nil (P := Tryz.prog) w
        clear hl
        gi_wp2
        refine ⟨by simp, .inl ⟨_, _, rfl, run_takeDeferred hK, ?_⟩⟩
        rw [HR.out]
        exact ⟨.tuple #[.slice none 0 0, .int .i64 8], by simp [results, Tryz.results98, go_sem], HBD.out, _, rfl, SliceR.nil_ 0 (Nat.zero_le _) none⟩
      | some x =>
        have hxm : x ∈ CL := leastBy_mem hl
        obtain ⟨g', o', c', hv', _, hi⟩ := HVX2.out x (HCLM.out x hxm)
        have HR : Hid (r = (x.1.pos, 0)) := by show _ = _; rw [HRES.out, hl]; rfl
        rw [hl] at hc1
        simp only [bestV] at hc1
        rw [hv'] at hc1 hi
        have HI := hid hi
        have hn := fun w => Lib.run_eql_slice_nil (P := Tryz.prog) w
        clear hl hi hv' hxm
        generalize x.1.pos = ps at *
        gi_wp2
        refine ⟨by simp, .inl ⟨_, _, rfl, run_takeDeferred hK, ?_⟩⟩
        rw [HR.out]
        have h1 := HBW1.out
        have h2 := hB0'.out.size
        exact ⟨.tuple #[.slice (some ⟨g', o', none⟩) ps.length c', .int .i64 0], by simp [results, Tryz.results98, go_sem], HBD.out, _, rfl, HI.out.keep (fun p hp => h1.cell hp.2) (fun k hk => ⟨Nat.le_trans h2 hk.1, Nat.lt_of_lt_of_le hk.2 h1.size⟩)⟩
    case stop =>
      rintro D c pre W hD hpre h hK
      exact h.elim
end Go.Proofs.YtmahiejfniaahaaGreatDoor
