/- Texts put together: CarD, GoodB, CarQ, LAt, Lin, CarB. -/
import Derived.Test.YtmahiejfniaahaaGreatDoorHA
import Derived.Test.YtmahiejfniaahaaGreatDoorGR
import Derived.Test.YtmahiejfniaahaaGreatDoorVisv
import Derived.Test.YtmahiejfniaahaaGreatDoorGA
import Derived.Test.YtmahiejfniaahaaGreatDoorHB
import Derived.Deep.QuietTactic
import Derived.BigQuiet
import Derived.Laws.EntriesVeiled
set_option linter.unusedVariables false
set_option linter.unusedSimpArgs false
set_option maxRecDepth 100000
namespace Go.Proofs.YtmahiejfniaahaaGreatDoor
open Go.RowKit
structure CarD.Ok (d : CarD) : Prop where
  x : In64 d.x
  top : In64 d.top
  bottom : In64 d.bottom
def carE : Enc CarD where
  size := 4
  R w S d cs := ∃ v, cs = [v, .int .i64 d.x, .int .i64 d.top, .int .i64 d.bottom] ∧ d.Ok ∧ IntsR w S d.pos v
  pos := by omega
  len := by rintro _ _ _ _ ⟨v, rfl, _⟩; rfl
  one := by rintro _ _ _ _ ⟨v, rfl, _, A, cap, cs, rfl, _⟩; simp [Value.oneCell']
  keep := by rintro _ _ _ _ _ _ ⟨v, rfl, h1, h2⟩ hk hB; exact ⟨v, rfl, h1, h2.keep hk hB⟩
abbrev CarsR (w : World) (S : Nat → Prop) (ds : List CarD) (v : Value) : Prop := SliceR carE w S ds v
def zeroC : CarD := ⟨[], 0, 0, 0⟩
def placeP (t : Tree) (b : Bx) (p : List Int) : Option CarD := placeS t b p.dropLast (p.getLastD 0)
theorem placeP_snoc (t : Tree) (b : Bx) (q : List Int) (x : Int) : placeP t b (q ++ [x]) = placeS t b q x := by
  unfold placeP
  rw [List.dropLast_concat]
  congr 1
  simp [List.getLastD_eq_getLast?]
def placeR (t : Tree) (b : Bx) (p : List Int) : CarD × Int :=
  if (validS t && validB b) = false then (zeroC, 1) else if posIn t p = false then (zeroC, 2) else match placeP t b p with | none => (zeroC, 8) | some d => (d, 0)
def CarRes (w : World) (r : CarD × Int) (e : Ending) (w' : World) : Prop :=
  Below w.heap.size w w' ∧ ∃ v, e = .returned (.tuple #[.agg #[v, .int .i64 r.1.x, .int .i64 r.1.top, .int .i64 r.1.bottom], .int .i64 r.2]) ∧ IntsR w' (fun k => w.heap.size ≤ k ∧ k < w'.heap.size) r.1.pos v
def carsL (t : Tree) (b : Bx) : List (List Int) → Option (List CarD)
  | [] => some []
  | p :: ps => match placeP t b p with
    | none => none
    | some d => (carsL t b ps).map (d :: ·)
def carsR (t : Tree) (b : Bx) : List CarD × Int :=
  if (validS t && validB b) = false then ([], 1) else match carsL t b (allS [] t) with | none => ([], 8) | some l => (l, 0)
def CarsRes (w : World) (r : List CarD × Int) (e : Ending) (w' : World) : Prop :=
  Below w.heap.size w w' ∧ ∃ v, e = .returned (.tuple #[v, .int .i64 r.2]) ∧ CarsR w' (fun k => w.heap.size ≤ k ∧ k < w'.heap.size) r.1 v
theorem carsL_take (t : Tree) (b : Bx) : (L : List (List Int)) → (k : Nat) → (hk : k < L.length) → carsL t b (L.take (k + 1)) = match carsL t b (L.take k) with | none => none | some l => (placeP t b L[k]).map fun d => l ++ [d]
  | [], k, hk => by simp at hk
  | p :: ps, 0, hk => by
    simp only [List.take_succ_cons, List.take_zero, carsL, List.getElem_cons_zero]
    cases placeP t b p <;> simp
  | p :: ps, k + 1, hk => by
    simp only [List.take_succ_cons, carsL, List.getElem_cons_succ]
    rw [carsL_take t b ps k (by simpa using hk)]
    cases placeP t b p with
    | none => rfl
    | some d =>
      cases carsL t b (ps.take k) with
      | none => rfl
      | some l => cases placeP t b (ps[k]'(by simpa using hk)) <;> simp
theorem carsL_none (t : Tree) (b : Bx) : (L : List (List Int)) → (k : Nat) → (hk : k < L.length) → placeP t b L[k] = none → carsL t b L = none
  | [], k, hk, _ => by simp at hk
  | p :: ps, 0, hk, h => by
    simp only [List.getElem_cons_zero] at h
    rw [carsL, h]
  | p :: ps, k + 1, hk, h => by
    simp only [List.getElem_cons_succ] at h
    rw [carsL, carsL_none t b ps k (by simpa using hk) h]
    cases placeP t b p <;> rfl
theorem carsL_len (t : Tree) (b : Bx) : (L : List (List Int)) → (l : List CarD) → carsL t b L = some l → l.length = L.length
  | [], l, h => by simp [carsL] at h; subst h; rfl
  | p :: ps, l, h => by
    rw [carsL] at h
    cases hp : placeP t b p with
    | none => rw [hp] at h; cases h
    | some d =>
      rw [hp] at h
      cases hl : carsL t b ps with
      | none => rw [hl] at h; cases h
      | some l' =>
        rw [hl] at h
        simp only [Option.map_some, Option.some.injEq] at h
        subst h
        simp [carsL_len t b ps l' hl]
end Go.Proofs.YtmahiejfniaahaaGreatDoor
set_option linter.unusedVariables false
set_option linter.unusedSimpArgs false
namespace Go.Proofs.YtmahiejfniaahaaGreatDoor
open Go.RowKit
theorem own_lens {f : BxF} {n : Nat} (h : ownB f n = true) : lensOk f = true ∧ srcOk f = true := by
  unfold ownB at h
  rw [Bool.and_eq_true] at h
  obtain ⟨h1, h2⟩ := h
  refine ⟨h1, ?_⟩
  split at h2
  · simp only [Bool.and_eq_true] at h2; exact h2.2.2.2
  · split at h2
    · simp only [Bool.and_eq_true] at h2; exact h2.2.2.2
    · split at h2
      · simp only [Bool.and_eq_true] at h2; exact h2.2.2
      · cases h2
theorem lens_all {f : BxF} (h : lensOk f = true) : -1073741824 ≤ f.x ∧ f.x ≤ 1073741824 ∧ -1073741824 ≤ f.y ∧ f.y ≤ 1073741824 ∧ -1073741824 ≤ f.h ∧ f.h ≤ 1073741824 ∧ -1073741824 ≤ f.d ∧ f.d ≤ 1073741824 := by
  simp only [lensOk, List.all_cons, List.all_nil, lenOk, Bool.and_eq_true, decide_eq_true_eq] at h
  omega
theorem src_len {f : BxF} (h : srcOk f = true) : f.src.length ≤ 49 := by
  simp only [srcOk, Bool.and_eq_true] at h
  have h2 := h.2
  split at h2
  · have := of_decide_eq_true h2; omega
  · split at h2
    · have := of_decide_eq_true h2; omega
    · split at h2
      · have := of_decide_eq_true h2; omega
      · cases h2
theorem props_mem : (l : List Bx) → propersB l = true → ∀ k ∈ l, properB k = true
  | [], _, k, hk => by cases hk
  | a :: l, hl, k, hk => by
    rw [propersB, Bool.and_eq_true] at hl
    rcases List.mem_cons.1 hk with rfl | hk
    · exact hl.1
    · exact props_mem l hl.2 k hk
theorem boxes_mem {w : World} {S : Nat → Prop} : (ks : List Bx) → (cs : List Value) → BoxesR w S ks cs → ∀ k ∈ ks, ∃ c, BoxR w S k c
  | [], _, _, k, hk => by cases hk
  | a :: ks, cs, h, k, hk => by
    unfold BoxesR at h
    obtain ⟨c, r, _, h1, h2⟩ := h
    rcases List.mem_cons.1 hk with rfl | hk
    · exact ⟨c, h1⟩
    · exact boxes_mem ks r h2 k hk
theorem goodB_of (w : World) (S : Nat → Prop) (b : Bx) : properB b = true → (∃ cs, BoxR w S b cs) → GoodB b := by
  induction b using Bx.ind with
  | h b ih =>
  intro hp ⟨cs, hr⟩
  obtain ⟨f, ks⟩ := b
  rw [properB, Bool.and_eq_true] at hp
  obtain ⟨h1, h2⟩ := own_lens hp.1
  unfold BoxR at hr
  obtain ⟨A, cap, rs, vs, _, _, ⟨_, _, is, _, _, _, _, hi⟩, _, _, _, hk⟩ := hr
  refine .mk f ks (lens_all h1) (fun x hx => ⟨?_, (listR_int.1 hi).2 x hx⟩) (by have := src_len h2; omega) (fun k hm => ih k hm (props_mem ks hp.2 k hm) (boxes_mem ks rs hk k hm))
  simp only [srcOk, Bool.and_eq_true, List.all_eq_true, decide_eq_true_eq] at h2
  exact h2.1 x hx
end Go.Proofs.YtmahiejfniaahaaGreatDoor
set_option linter.unusedVariables false
set_option linter.unusedSimpArgs false
namespace Go.Proofs.YtmahiejfniaahaaGreatDoor
open Go.RowKit
theorem proper_lens {b : Bx} (h : properB b = true) : lensOk b.f = true ∧ propersB b.kids = true := by
  obtain ⟨f, ks⟩ := b
  rw [properB, Bool.and_eq_true] at h
  exact ⟨(own_lens h.1).1, h.2⟩
theorem lens_w {f : BxF} (h : lensOk f = true) : -1073741824 ≤ f.w ∧ f.w ≤ 1073741824 := by
  simp only [lensOk, List.all_cons, List.all_nil, lenOk, Bool.and_eq_true, decide_eq_true_eq] at h
  omega
mutual
theorem find_bd (q : Int) (p : List Int) : (b : Bx) → properB b = true → (r : Bx × Int × Int) → findB q p b = some r → properB r.1 = true ∧ r.1.f.src = p ∧ cntB r.1 ≤ cntB b ∧ (-(1073741824 * (cntB b : Int)) ≤ r.2.1 ∧ r.2.1 ≤ 1073741824 * (cntB b : Int)) ∧ (-(1073741824 * (cntB b : Int)) ≤ r.2.2 ∧ r.2.2 ≤ 1073741824 * (cntB b : Int))
  | .mk f ks, h, r, hf => by
    rw [findB] at hf
    split at hf
    · rename_i hc
      injection hf with hf
      subst hf
      exact ⟨h, hc.2, Nat.le_refl _, ⟨by simp only; omega, by simp only; omega⟩, ⟨by simp only; omega, by simp only; omega⟩⟩
    · have h2 : propersB ks = true := (proper_lens h).2
      obtain ⟨a1, a2, a3, a4, a5⟩ := finds_bd q p ks h2 r hf
      rw [cntB]
      exact ⟨a1, a2, by omega, by omega, by omega⟩
theorem finds_bd (q : Int) (p : List Int) : (ks : List Bx) → propersB ks = true → (r : Bx × Int × Int) → findsB q p ks = some r → properB r.1 = true ∧ r.1.f.src = p ∧ cntB r.1 ≤ cntsB ks ∧ (-(1073741824 * ((cntsB ks : Int) + 1)) ≤ r.2.1 ∧ r.2.1 ≤ 1073741824 * ((cntsB ks : Int) + 1)) ∧ (-(1073741824 * ((cntsB ks : Int) + 1)) ≤ r.2.2 ∧ r.2.2 ≤ 1073741824 * ((cntsB ks : Int) + 1))
  | [], _, r, hf => by rw [findsB] at hf; cases hf
  | k :: ks, h, r, hf => by
    rw [propersB, Bool.and_eq_true] at h
    rw [findsB] at hf
    rw [cntsB]
    split at hf
    · rename_i r' hr'
      injection hf with hf
      subst hf
      obtain ⟨a1, a2, a3, a4, a5⟩ := find_bd q p k h.1 r' hr'
      have hl := lens_all (proper_lens h.1).1
      exact ⟨a1, a2, by simp only; omega, ⟨by simp only; omega, by simp only; omega⟩, ⟨by simp only; omega, by simp only; omega⟩⟩
    · obtain ⟨a1, a2, a3, a4, a5⟩ := finds_bd q p ks h.2 r hf
      exact ⟨a1, a2, by omega, by omega, by omega⟩
end
theorem kids_small {b : Bx} (h : properB b = true) : ∀ k (hk : k < b.kids.length), -1073741824 ≤ b.kids[k].f.x ∧ b.kids[k].f.x ≤ 1073741824 ∧ -1073741824 ≤ b.kids[k].f.w ∧ b.kids[k].f.w ≤ 1073741824 := fun k hk => by
  have hp := props_mem b.kids (proper_lens h).2 _ (List.getElem_mem hk)
  have h1 := lens_all (proper_lens hp).1
  have h2 := lens_w (proper_lens hp).1
  omega
end Go.Proofs.YtmahiejfniaahaaGreatDoor
set_option linter.unusedVariables false
set_option linter.unusedSimpArgs false
set_option maxRecDepth 100000
namespace Go.Proofs.YtmahiejfniaahaaGreatDoor
open Go.RowKit
theorem begin_q (ks : List Bx) (k : Nat) (x : Int) (ql g o : Nat) (A : Option Addr) (cap : Nat) (w : World) (S : Nat → Prop) (hk : k < ks.length) (hks : BoxesS w S ks (.slice A ks.length cap)) (c8 : w.cell? ⟨g, o + 8, none⟩ = some (.slice A ks.length cap)) (l0 : w.cell? ⟨ql, 0, none⟩ = some (.pointer (some ⟨g, o, none⟩))) (l1 : w.cell? ⟨ql, 1, none⟩ = some (.int .i64 x)) (hb : -4611686018427387904 ≤ x + kX ks k ∧ x + kX ks k ≤ 4611686018427387904) :
    Calls Tryz.prog 106 #[.int .i64 k, .pointer (some ⟨ql, 0, none⟩)] w fun e w' => e = .returned (.int .i64 (x + kX ks k)) ∧ ∃ n, w' = w.drewN n := by
  have hl := hks.lens
  unfold maxLen at hl
  obtain ⟨_, _, rs, hq, h1, h2, hrd, hls⟩ := hks
  cases hq
  obtain ⟨gk, ok, A', cap', vs, rfl, a1, a2, a3, a4, a5⟩ := boxes_at hrd hls hk
  have c6 := a2.c6
  rw [← kX_at hk] at c6
  obtain ⟨hb1, hb2⟩ := hb
  have v1 : IntKind.i64.wrap (x + kX ks k) = x + kX ks k := IntWalk.i64_in _ (by omega)
  generalize kX ks k = kx at *
  have i0 : (k : Int) < (ks.length : Int) := by omega
  clear hrd hls a2 a4 a5 a3
  go_enter Tryz.func106, Tryz.ntmps106
  go_wp2_with fail
  go_quiet (fail)
  go_wp2_with fail
  go_ret
  exact ⟨rfl, _, rfl⟩
theorem end_q (ks : List Bx) (k : Nat) (x : Int) (ql q7 g o : Nat) (A : Option Addr) (cap : Nat) (w : World) (S : Nat → Prop) (hk : k < ks.length) (hks : BoxesS w S ks (.slice A ks.length cap)) (c8 : w.cell? ⟨g, o + 8, none⟩ = some (.slice A ks.length cap)) (l0 : w.cell? ⟨ql, 0, none⟩ = some (.pointer (some ⟨g, o, none⟩))) (l1 : w.cell? ⟨ql, 1, none⟩ = some (.int .i64 x))
    (f0 : w.cell? ⟨q7, 0, none⟩ = some (.func (.func 106) #[] #[.pointer (some ⟨ql, 0, none⟩)])) (hb : -4611686018427387904 ≤ x + kX ks k ∧ x + kX ks k ≤ 4611686018427387904) (hb' : -4611686018427387904 ≤ endS ks x k ∧ endS ks x k ≤ 4611686018427387904) :
    Calls Tryz.prog 107 #[.int .i64 k, .pointer (some ⟨q7, 0, none⟩), .pointer (some ⟨ql, 0, none⟩)] w fun e w' => e = .returned (.int .i64 (endS ks x k)) ∧ ∃ n, w' = w.drewN n := by
  have CB : Hid (∀ n, Calls Tryz.prog 106 #[.int .i64 k, .pointer (some ⟨ql, 0, none⟩)] (w.drewN n) fun e w' => e = .returned (.int .i64 (x + kX ks k)) ∧ ∃ m, w' = (w.drewN n).drewN m) := fun n => begin_q ks k x ql g o A cap (w.drewN n) S hk (hks.keep (fun _ _ => rfl) (fun _ h => h)) c8 l0 l1 hb
  have hl := hks.lens
  unfold maxLen at hl
  obtain ⟨_, _, rs, hq, h1, h2, hrd, hls⟩ := hks
  cases hq
  obtain ⟨gk, ok, A', cap', vs, rfl, a1, a2, a3, a4, a5⟩ := boxes_at hrd hls hk
  have c3 := a2.c3
  rw [← kW_at hk] at c3
  obtain ⟨hb1, hb2⟩ := hb
  unfold endS at *
  obtain ⟨hb3, hb4⟩ := hb'
  have v1 : IntKind.i64.wrap (x + kX ks k + kW ks k) = x + kX ks k + kW ks k := IntWalk.i64_in _ (by omega)
  have i0 : (k : Int) < (ks.length : Int) := by omega
  generalize kX ks k = kx at *
  generalize kW ks k = kw at *
  generalize x + kx = xx at *
  clear hrd hls a2 a4 a5 a3
  go_enter Tryz.func107, Tryz.ntmps107
  go_wp2_with fail
  go_quiet (exact Calls.quiet_of (CB.out _))
  go_wp2_with fail
  go_ret
  exact ⟨rfl, _, rfl⟩
def KB (b : Bx) : Prop := ∀ k (h : k < b.kids.length), -1073741824 ≤ b.kids[k].f.x ∧ b.kids[k].f.x ≤ 1073741824 ∧ -1073741824 ≤ b.kids[k].f.w ∧ b.kids[k].f.w ≤ 1073741824
theorem half_bd (n : Int) : -536870913 ≤ halfS n ∧ halfS n ≤ 536870913 := by
  unfold halfS
  split
  · rename_i h
    simp only [lenOk, decide_eq_true_eq] at h
    split <;> omega
  · omega
def AtRes (w : World) (x : Int) (e : Ending) (w' : World) : Prop := e = .returned (.int .i64 x) ∧ Below w.heap.size w w'
set_option maxHeartbeats 2000000 in
theorem at_any (b : Bx) (g o : Nat) (x top bottom off items : Int) (k : Nat) (hoff : off = k) (hit : items = b.kids.length) (hk : k ≤ b.kids.length) (w : World) (S : Nat → Prop) (hb : BoxPl w S g o b) (hS : ∀ q, S q → q < w.heap.size) (hkb : KB b) (hx : -1152921504606846976 ≤ x ∧ x ≤ 1152921504606846976) :
    Calls Tryz.prog 80 #[.agg #[.pointer (some ⟨g, o, none⟩), .int .i64 x, .int .i64 top, .int .i64 bottom], .int .i64 off, .int .i64 items] w (AtRes w (atS b x k)) := by
  obtain ⟨hg, hok, A, cap, vs, h11, hsrc, hks⟩ := hb
  have hl := hks.lens
  unfold maxLen at hl
  obtain ⟨W0, hW0⟩ : ∃ W0, w.alloc (.cells #[.pointer (some ⟨g, o, none⟩), .int .i64 x, .int .i64 top, .int .i64 bottom] 115) = W0 := ⟨_, rfl⟩
  have hb0 : Below w.heap.size w W0 := by rw [← hW0]; exact bNew _ _
  have hz0 : W0.heap.size = w.heap.size + 1 := by rw [← hW0]; simp
  have hl0 : W0.cell? ⟨w.heap.size, 0, none⟩ = some (.pointer (some ⟨g, o, none⟩)) := by rw [← hW0]; exact cNew _ _ _ _ _ rfl
  have hl1 : W0.cell? ⟨w.heap.size, 1, none⟩ = some (.int .i64 x) := by rw [← hW0]; exact cNew _ _ _ _ _ rfl
  have HH := hid (fun n W => half_q n W)
  have HB0 := hid hb0
  by_cases h0 : b.kids.length = 0
  · have HF : Hid (atS b x k = x + halfS b.f.w) := by show _ = _; rw [atS, if_pos h0]
    have c3 := (hb0.cell (p := ⟨g, o + 3, none⟩) (hS _ hg)).trans h11.c3
    have hh := half_bd b.f.w
    have v1 : IntKind.i64.wrap (x + halfS b.f.w) = x + halfS b.f.w := IntWalk.i64_in _ (by omega)
    have i0 : (items == 0) = true := by rw [hit, h0]; rfl
    generalize b.f.w = bw at *
    clear hsrc hks h11 hb0 hkb hx hoff hit hk hg hok hh
    go_enter Tryz.func80, Tryz.ntmps80
    go_upto_region 2 with fail
    try rw [hW0]
    clear hW0
    go_quiet (exact Calls.quiet_of (HH.out _ _))
    go_wp2_with fail
    go_ret
    exact ⟨by rw [HF.out]; rfl, by first | exact HB0.out | exact bDn HB0.out _ | exact bDn (bDn HB0.out _) _⟩
  · obtain ⟨W1, hW1⟩ : ∃ W1, W0.alloc (.cells #[.func (.func 106) #[] #[.pointer (some ⟨w.heap.size, 0, none⟩)]] 122) = W1 := ⟨_, rfl⟩
    have hb1 : Below W0.heap.size W0 W1 := by rw [← hW1]; exact bNew _ _
    have hbw : Below w.heap.size w W1 := hb0.trans (hb1.mono hb0.size)
    have hf0 : W1.cell? ⟨W0.heap.size, 0, none⟩ = some (.func (.func 106) #[] #[.pointer (some ⟨w.heap.size, 0, none⟩)]) := by rw [← hW1]; exact cNew _ _ _ _ _ rfl
    have hm0 := (hb1.cell (p := ⟨w.heap.size, 0, none⟩) (by rw [hz0]; simp)).trans hl0
    have hm1 := (hb1.cell (p := ⟨w.heap.size, 1, none⟩) (by rw [hz0]; simp)).trans hl1
    have hc8 := (hbw.cell (p := ⟨g, o + 8, none⟩) (hS _ hg)).trans h11.c8
    have hks1 : BoxesS W1 S b.kids (.slice A b.kids.length cap) := hks.keep (fun p hp => hbw.cell (hS _ hp)) (fun _ h => h)
    have hkx : ∀ j, j < b.kids.length → (-1073741824 ≤ kX b.kids j ∧ kX b.kids j ≤ 1073741824) ∧ (-1073741824 ≤ kW b.kids j ∧ kW b.kids j ≤ 1073741824) := fun j hj => by
      have := hkb j hj
      rw [kX_at hj, kW_at hj]
      exact ⟨⟨this.1, this.2.1⟩, this.2.2⟩
    have CB : Hid (∀ j (z : Int) n, z = (j : Nat) → j < b.kids.length → Calls Tryz.prog 106 #[.int .i64 z, .pointer (some ⟨w.heap.size, 0, none⟩)] (W1.drewN n) fun e w' => e = .returned (.int .i64 (x + kX b.kids j)) ∧ ∃ m, w' = (W1.drewN n).drewN m) := fun j z n hz hj => by
      have := hkx j hj
      subst hz
      exact begin_q b.kids j x w.heap.size g o A cap _ S hj (hks1.keep (fun _ _ => rfl) (fun _ h => h)) hc8 hm0 hm1 (by omega)
    have CE : Hid (∀ j (z : Int) n, z = (j : Nat) → j < b.kids.length → Calls Tryz.prog 107 #[.int .i64 z, .pointer (some ⟨W0.heap.size, 0, none⟩), .pointer (some ⟨w.heap.size, 0, none⟩)] (W1.drewN n) fun e w' => e = .returned (.int .i64 (endS b.kids x j)) ∧ ∃ m, w' = (W1.drewN n).drewN m) := fun j z n hz hj => by
      have := hkx j hj
      subst hz
      exact end_q b.kids j x w.heap.size W0.heap.size g o A cap _ S hj (hks1.keep (fun _ _ => rfl) (fun _ h => h)) hc8 hm0 hm1 hf0 (by omega) (by unfold endS; omega)
    have HBW := hid hbw
    have i0 : (items == 0) = false := by rw [hit]; simpa using h0
    by_cases h1 : k = 0
    · have HF : Hid (atS b x k = x + kX b.kids 0) := by show _ = _; rw [atS, if_neg h0, if_pos h1]
      have i1 : (off == 0) = true := by rw [hoff, h1]; rfl
      have CB0 : Hid (Calls Tryz.prog 106 #[.int .i64 0, .pointer (some ⟨w.heap.size, 0, none⟩)] W1 fun e w' => e = .returned (.int .i64 (x + kX b.kids 0)) ∧ ∃ m, w' = W1.drewN m) := CB.out 0 0 0 rfl (by omega)
      clear hsrc hks h11 hb0 hkb hx hoff hit hk hg hok hks1 hc8 hkx hb1 hbw hz0
      go_enter Tryz.func80, Tryz.ntmps80
      go_upto_region 3 with fail
      try rw [hW0]
      go_upto_region 7 with fail
      try rw [hW1]
      clear hW0 hW1
      go_wp2_with fail
      refine CB0.out.mono ?_
      rintro e w1 ⟨rfl, n, rfl⟩
      go_wp2_with fail
      go_ret
      exact ⟨by rw [HF.out]; rfl, bDn HBW.out _⟩
    · have i1 : (off == 0) = false := by rw [hoff]; simpa using h1
      by_cases h2 : k = b.kids.length
      · have HF : Hid (atS b x k = endS b.kids x (k - 1)) := by show _ = _; rw [atS, if_neg h0, if_neg h1, if_pos h2]
        have i2 : (off == items) = true := by rw [hoff, hit, h2]; simp
        obtain ⟨im, him⟩ : ∃ im, im = items - 1 := ⟨_, rfl⟩
        have v1 : IntKind.i64.wrap (items - 1) = im := by rw [him]; exact IntWalk.i64_in _ (by omega)
        have CE0 : Hid (Calls Tryz.prog 107 #[.int .i64 im, .pointer (some ⟨W0.heap.size, 0, none⟩), .pointer (some ⟨w.heap.size, 0, none⟩)] W1 fun e w' => e = .returned (.int .i64 (endS b.kids x (k - 1))) ∧ ∃ m, w' = W1.drewN m) := CE.out (k - 1) im 0 (by omega) (by omega)
        clear hsrc hks h11 hb0 hkb hx hoff hit hk hg hok hks1 hc8 hkx hb1 hbw hz0 h0 h1 h2
        clear him
        go_enter Tryz.func80, Tryz.ntmps80
        go_upto_region 3 with fail
        try rw [hW0]
        go_upto_region 9 with fail
        try rw [hW1]
        clear hW0 hW1
        go_wp2_with fail
        refine CE0.out.mono ?_
        rintro e w1 ⟨rfl, n, rfl⟩
        go_wp2_with fail
        go_ret
        exact ⟨by rw [HF.out]; rfl, bDn HBW.out _⟩
      · have HF : Hid (atS b x k = endS b.kids x (k - 1) + halfS (x + kX b.kids k - endS b.kids x (k - 1))) := by show _ = _; rw [atS, if_neg h0, if_neg h1, if_neg h2]
        have i2 : (off == items) = false := by rw [hoff, hit]; simp; omega
        obtain ⟨im, him⟩ : ∃ im, im = off - 1 := ⟨_, rfl⟩
        have v1 : IntKind.i64.wrap (off - 1) = im := by rw [him]; exact IntWalk.i64_in _ (by omega)
        have b1 := hkx k (by omega)
        have b2 := hkx (k - 1) (by omega)
        have b3 : endS b.kids x (k - 1) = x + kX b.kids (k - 1) + kW b.kids (k - 1) := rfl
        have CE0 : Hid (∀ n, Calls Tryz.prog 107 #[.int .i64 im, .pointer (some ⟨W0.heap.size, 0, none⟩), .pointer (some ⟨w.heap.size, 0, none⟩)] (W1.drewN n) fun e w' => e = .returned (.int .i64 (endS b.kids x (k - 1))) ∧ ∃ m, w' = (W1.drewN n).drewN m) := fun n => CE.out (k - 1) im n (by omega) (by omega)
        have CB0 : Hid (∀ n, Calls Tryz.prog 106 #[.int .i64 off, .pointer (some ⟨w.heap.size, 0, none⟩)] (W1.drewN n) fun e w' => e = .returned (.int .i64 (x + kX b.kids k)) ∧ ∃ m, w' = (W1.drewN n).drewN m) := fun n => CB.out k off n hoff (by omega)
        have hh := half_bd (x + kX b.kids k - endS b.kids x (k - 1))
        have v2 : IntKind.i64.wrap (x + kX b.kids k - endS b.kids x (k - 1)) = x + kX b.kids k - endS b.kids x (k - 1) := IntWalk.i64_in _ (by omega)
        have v3 : IntKind.i64.wrap (endS b.kids x (k - 1) + halfS (x + kX b.kids k - endS b.kids x (k - 1))) = endS b.kids x (k - 1) + halfS (x + kX b.kids k - endS b.kids x (k - 1)) := IntWalk.i64_in _ (by omega)
        clear hsrc hks h11 hb0 hkb hx hoff hit hk hg hok hks1 hc8 hkx hb1 hbw hz0 h0 h1 h2 b1 b2 b3 hh CB CE
        generalize x + kX b.kids k = e1 at *
        generalize endS b.kids x (k - 1) = e2 at *
        clear him
        go_enter Tryz.func80, Tryz.ntmps80
        go_upto_region 3 with fail
        try rw [hW0]
        go_upto_region 10 with fail
        try rw [hW1]
        clear hW0 hW1
        go_quiet (first | exact Calls.quiet_of (CE0.out _) | exact Calls.quiet_of (CB0.out _) | exact Calls.quiet_of (HH.out _ _))
        go_wp2_with fail
        go_ret
        exact ⟨by rw [HF.out]; rfl, by first | exact HBW.out | exact bDn HBW.out _ | exact bDn (bDn HBW.out _) _⟩
end Go.Proofs.YtmahiejfniaahaaGreatDoor
set_option linter.unusedVariables false
set_option linter.unusedSimpArgs false
set_option maxRecDepth 100000
namespace Go.Proofs.YtmahiejfniaahaaGreatDoor
open Go.RowKit
theorem OnlyM.below {m B B' : Nat} {w w' : World} (h : OnlyM m B w w') (hB : B' ≤ B) (hm : B' ≤ m) : Below B' w w' :=
  ⟨h.os, h.tape, h.output, h.size, fun k hk => h.block k (by omega) (by omega)⟩
theorem BoxPl.boxR {w : World} {S : Nat → Prop} {g o : Nat} {b : Bx} (h : BoxPl w S g o b) : ∃ cs, BoxR w S b cs := by
  obtain ⟨_, h2, A, cap, vs, _, h4, h5⟩ := h
  exact ⟨_, boxR_mk.2 ⟨_, _, rfl, h2, h4, h5⟩⟩
theorem valid_parts {b : Bx} (h : validB b = true) : properB b = true ∧ cntB b ≤ 20000 ∧ nestB b ≤ 100 := by
  unfold validB at h
  simp only [Bool.and_eq_true, decide_eq_true_eq] at h
  exact ⟨h.1.1, h.1.2, h.2⟩
abbrev TabOk (w : World) : Prop := Lib.TabIs Tryz.prog w "internal/strconv.uint64pow10" .u64 Lib.pow10Tab
theorem TabOk.below {w w' : World} (h : TabOk w) (hb : Below w.heap.size w w') : TabOk w' := Lib.tabBelow_of_tabIs h w' hb
def LinesRes (w : World) (b : Bx) (e : Ending) (w' : World) : Prop := ∃ bm, e = .returned (.map (some bm)) ∧ w.heap.size ≤ bm ∧ FoundM w' (Lt w.heap.size) bm (cntB b) (rowsB b 0 0) ∧ Below w.heap.size w w'
set_option maxHeartbeats 1000000 in
theorem lines_any (g : Nat) (b : Bx) (w : World) (hb : BoxPl w (Lt w.heap.size) g 0 b) (hv : validB b = true) (htab : TabOk w) :
    Calls Tryz.prog 40 #[.pointer (some ⟨g, 0, none⟩)] w (LinesRes w b) := by
  obtain ⟨hp, hc, _⟩ := valid_parts hv
  have hG := goodB_of w _ b hp hb.boxR
  have hz : (w.alloc (.map #[] 0)).heap.size = w.heap.size + 1 := by simp
  have HV : Hid (∀ W, Below (w.heap.size + 1) (w.alloc (.map #[] 0)) W → w.heap.size + 2 < W.heap.size → W.cell? ⟨w.heap.size + 1, 0, none⟩ = some (.map (some w.heap.size)) → W.cell? ⟨w.heap.size + 2, 0, none⟩ = some (visV (w.heap.size + 1) (w.heap.size + 2)) →
      Calls Tryz.prog 81 #[.pointer (some ⟨g, 0, none⟩), .int .i64 0, .int .i64 0, .pointer (some ⟨w.heap.size + 1, 0, none⟩), .pointer (some ⟨w.heap.size + 2, 0, none⟩)] W (VisRes w.heap.size (cntB b) (Lt w.heap.size) (rowsB b 0 0) W)) := fun W hW hsz h1 h2 => by
    have hbw : Below w.heap.size w W := (bNew w _).trans (hW.mono (Nat.le_succ _))
    have hF : FoundM W (Lt w.heap.size) w.heap.size 0 [] := (FoundM.made w _).keep (hW.block _ (Nat.lt_succ_self _)) (fun p hp => hW.cell (Nat.lt_succ_of_lt hp)) (fun _ h => h)
    have h := bvisit_any w.heap.size (w.heap.size + 1) (w.heap.size + 2) (Lt w.heap.size) ⟨by omega, by omega⟩ b g 0 0 0 0 0 [] W (hb.keep (Same.of_below hbw (Nat.le_refl _)) (fun _ h => h)) (fun k hk => ⟨Nat.lt_of_lt_of_le hk hbw.size, Nat.ne_of_lt hk⟩) hF hG h1 h2 (by omega) (by omega)
      (fun W' hW' => htab.below (hbw.trans (hW'.below hbw.size (Nat.le_refl _))))
    rw [Nat.zero_add, List.nil_append] at h
    exact h
  have HX : Hid (∀ o2 o3, Below (w.heap.size + 1) (w.alloc (.map #[] 0)) (((w.alloc (.map #[] 0)).alloc o2).alloc o3)) := fun o2 o3 => by
    have h := bAl (bNew (w.alloc (.map #[] 0)) o2) o3
    rw [hz] at h
    exact h
  have HW : Hid (∀ o2 o3, Below w.heap.size w (((w.alloc (.map #[] 0)).alloc o2).alloc o3)) := fun o2 o3 => (bNew w _).trans ((HX.out o2 o3).mono (Nat.le_succ _))
  have HS : Hid (∀ o2 o3, w.heap.size + 2 < (((w.alloc (.map #[] 0)).alloc o2).alloc o3).heap.size) := fun o2 o3 => by simp
  have HC1 : Hid (∀ cs T o3, (((w.alloc (.map #[] 0)).alloc (.cells cs T)).alloc o3).cell? ⟨w.heap.size + 1, 0, none⟩ = cs[0]?) := fun cs T o3 =>
    ((bcell (bNew ((w.alloc (.map #[] 0)).alloc (.cells cs T)) o3)).1 _ _ (by simp)).trans (cNew _ cs T _ 0 (by simp))
  have HC2 : Hid (∀ o2 cs T, (((w.alloc (.map #[] 0)).alloc o2).alloc (.cells cs T)).cell? ⟨w.heap.size + 2, 0, none⟩ = cs[0]?) := fun o2 cs T => cNew _ cs T _ 0 (by simp)
  have hmm := @run_makeMap Tryz.prog
  clear hb hv htab hp hc hG hz
  go_enter Tryz.func40, Tryz.ntmps40
  go_wp2_with fail
  refine (HV.out _ (HX.out _ _) (HS.out _ _) ((HC1.out _ _ _).trans rfl) ((HC2.out _ _ _).trans rfl)).mono ?_
  rintro e w1 ⟨rfl, hF, hO⟩
  have HF := hid hF
  have HB := hid ((HW.out _ _).trans (hO.below (HW.out _ _).size (Nat.le_refl _)))
  have e1 := ((hO.cell (p := ⟨w.heap.size + 1, 0, none⟩) (by have := HS.out (Obj.cells #[Value.int .i64 0] 0) (Obj.cells #[Value.int .i64 0] 0); simp) (by simp)).trans (HC1.out _ _ _)).trans rfl
  clear hF hO
  go_wp2_with fail
  go_ret
  exact ⟨_, rfl, Nat.le_refl _, HF.out, HB.out⟩
end Go.Proofs.YtmahiejfniaahaaGreatDoor
set_option linter.unusedVariables false
set_option linter.unusedSimpArgs false
namespace Go.Proofs.YtmahiejfniaahaaGreatDoor
open Go.RowKit
def Sm (x : Int) : Prop := -70368744177664 ≤ x ∧ x ≤ 70368744177664
theorem at_bd {b : Bx} (hp : properB b = true) (x : Int) (k : Nat) (hk : k ≤ b.kids.length) : x - 6442450944 ≤ atS b x k ∧ atS b x k ≤ x + 6442450944 := by
  have hx : ∀ j, j < b.kids.length → (-1073741824 ≤ kX b.kids j ∧ kX b.kids j ≤ 1073741824) ∧ (-1073741824 ≤ kW b.kids j ∧ kW b.kids j ≤ 1073741824) := fun j hj => by
    have := kids_small hp j hj
    rw [kX_at hj, kW_at hj]
    exact ⟨⟨this.1, this.2.1⟩, this.2.2⟩
  unfold atS endS
  split
  · have := half_bd b.f.w; omega
  · split
    · have := hx 0 (by omega); omega
    · split
      · have := hx (k - 1) (by omega); omega
      · have h1 := hx (k - 1) (by omega)
        have h2 := half_bd (x + kX b.kids k - (x + kX b.kids (k - 1) + kW b.kids (k - 1)))
        omega
theorem placeS_ok {t : Tree} {b : Bx} {q : List Int} {x : Int} {d : CarD} {t0 : Tree} (hv : validB b = true) (hr : rowS t q = some t0) (hx : 0 ≤ x ∧ x ≤ t0.kids.length) (h : placeS t b q x = some d) : d.pos = q ++ [x] ∧ Sm d.x ∧ Sm d.top ∧ Sm d.bottom ∧ (d.bottom ≤ d.top + 2147483648 ∧ d.top ≤ d.bottom + 2147483648) := by
  obtain ⟨hp, hc, _⟩ := valid_parts hv
  rw [placeS, hr] at h
  cases hf : findB 1 q b with
  | none => rw [hf] at h; cases h
  | some f =>
    rw [hf] at h
    simp only at h
    split at h
    · rename_i hl
      injection h with h
      subst h
      obtain ⟨a1, a2, a3, a4, a5⟩ := find_bd 1 q b hp f hf
      have h1 := at_bd a1 f.2.1 x.toNat (by omega)
      have h2 := lens_all (proper_lens a1).1
      refine ⟨rfl, ?_, ?_, ?_, ?_⟩ <;> (first | unfold Sm | skip) <;> simp only <;> omega
    · cases h
theorem Sm.in64 {x : Int} (h : Sm x) : In64 x := by unfold Sm at h; unfold In64; omega
theorem placeP_ok {t : Tree} {b : Bx} {p : List Int} {d : CarD} (hv : validB b = true) (hp : posIn t p = true) (h : placeP t b p = some d) : d.pos = p ∧ Sm d.x ∧ Sm d.top ∧ Sm d.bottom ∧ (d.bottom ≤ d.top + 2147483648 ∧ d.top ≤ d.bottom + 2147483648) := by
  obtain ⟨q, x, rfl⟩ := posIn_ne hp
  obtain ⟨t0, h1, h2, h3⟩ := posIn_row t q x hp
  rw [placeP_snoc] at h
  exact placeS_ok hv h1 ⟨h2, h3⟩ h
end Go.Proofs.YtmahiejfniaahaaGreatDoor
