/- Texts put together: KeyP, Key, Found, VisP. -/
import Derived.Test.YtmahiejfniaahaaGreatDoorBasev
import Derived.Lib.ItoaNum
import Derived.Shelf.Strconv.AppendIntPublic10
import Derived.Shelf.Lay
import Derived.Ground.NamesProg
import Derived.Test.YtmahiejfniaahaaGreatDoorGA
import Derived.Lib.AppendIntMem
import Derived.Lib.ItoaLen
import Derived.Lib.Slices
import Derived.Lib.BufferRead
import Derived.Laws.IdiomStrings
import Derived.OwnWalk
import Derived.Test.YtmahiejfniaahaaGreatDoorHA
import Derived.Maps.OwnSet
import Derived.Maps.Views
set_option linter.unusedVariables false
set_option linter.unusedSimpArgs false
namespace Go.Proofs.YtmahiejfniaahaaGreatDoor
open Go.RowKit Go.Lib
def keyS (p : List Int) : List UInt8 := p.flatMap fun i => itoa i ++ [32]
theorem dec_digit (u : Nat) : ∀ c ∈ decDigits u, 48 ≤ c.toNat ∧ c.toNat ≤ 57 := by
  induction u using Nat.strongRecOn with
  | _ u ih =>
    intro c hc
    rw [decDigits] at hc
    split at hc
    · simp at hc
      subst hc
      simp [UInt8.toNat_ofNat']
      omega
    · rcases List.mem_append.1 hc with hc | hc
      · exact ih (u / 10) (by omega) c hc
      · simp at hc
        subst hc
        simp [UInt8.toNat_ofNat']
        omega
def valD (l : List UInt8) : Nat := l.foldl (fun a c => 10 * a + (c.toNat - 48)) 0
theorem val_dec (u : Nat) : valD (decDigits u) = u := by
  induction u using Nat.strongRecOn with
  | _ u ih =>
    rw [decDigits]
    split
    · rename_i h
      simp [valD, UInt8.toNat_ofNat']
      omega
    · rename_i h
      have := ih (u / 10) (by omega)
      unfold valD at this ⊢
      rw [List.foldl_append, this]
      simp [UInt8.toNat_ofNat']
      omega
theorem itoa_inj {a b : Int} (ha : 0 ≤ a) (hb : 0 ≤ b) (h : itoa a = itoa b) : a = b := by
  unfold itoa at h
  rw [if_neg (by omega), if_neg (by omega)] at h
  have := congrArg valD h
  rw [val_dec, val_dec] at this
  omega
theorem itoa_no32 {a : Int} (ha : 0 ≤ a) : ∀ c ∈ itoa a, c ≠ 32 := by
  intro c hc e
  unfold itoa at hc
  rw [if_neg (by omega)] at hc
  have := dec_digit _ c hc
  subst e
  simp at this
theorem split32 : (a b r s : List UInt8) → (∀ c ∈ a, c ≠ 32) → (∀ c ∈ b, c ≠ 32) → a ++ 32 :: r = b ++ 32 :: s → a = b ∧ r = s
  | [], [], r, s, _, _, h => by simpa using h
  | [], y :: b, r, s, _, hb, h => by simp at h; exact absurd h.1.symm (hb y (by simp))
  | x :: a, [], r, s, ha, _, h => by simp at h; exact absurd h.1 (ha x (by simp))
  | x :: a, y :: b, r, s, ha, hb, h => by
    simp at h
    obtain ⟨h1, h2⟩ := split32 a b r s (fun c hc => ha c (by simp [hc])) (fun c hc => hb c (by simp [hc])) h.2
    exact ⟨by rw [h.1, h1], h2⟩
theorem key_inj : (p q : List Int) → (∀ x ∈ p, 0 ≤ x) → (∀ x ∈ q, 0 ≤ x) → keyS p = keyS q → p = q
  | [], [], _, _, _ => rfl
  | [], y :: q, _, _, h => by simp [keyS] at h
  | x :: p, [], _, _, h => by simp [keyS] at h
  | x :: p, y :: q, hp, hq, h => by
    have h' : itoa x ++ 32 :: keyS p = itoa y ++ 32 :: keyS q := by simpa [keyS, List.flatMap_cons] using h
    obtain ⟨h1, h2⟩ := split32 _ _ _ _ (itoa_no32 (hp x (by simp))) (itoa_no32 (hq y (by simp))) h'
    rw [itoa_inj (hp x (by simp)) (hq y (by simp)) h1, key_inj p q (fun z hz => hp z (by simp [hz])) (fun z hz => hq z (by simp [hz])) h2]
theorem keyS_snoc (p : List Int) (i : Int) : keyS (p ++ [i]) = keyS p ++ (itoa i ++ [32]) := by simp [keyS]
end Go.Proofs.YtmahiejfniaahaaGreatDoor
set_option linter.unusedVariables false
set_option linter.unusedSimpArgs false
set_option maxRecDepth 100000
namespace Go.Proofs
open Go.Shelf
shelf_lay LaysM.n176 Nm 176 at Tryz as Tryz.laysAI
end Go.Proofs
namespace Go.Proofs.YtmahiejfniaahaaGreatDoor
open Go.RowKit Go.Shelf
theorem aInt_any (B n : Nat) (i : Int) (h0 : -9223372036854775808 ≤ i) (h1 : i ≤ 9223372036854775807) (sv : Value) (xs : List Value) (w : World) (hown : w.ownsRow B 5 1 sv n xs) (hBw : B ≤ w.heap.size) (hlim : n + 21 ≤ 140737488355328)
    (htab : Lib.TabBelow Tryz.prog B w "internal/strconv.uint64pow10" .u64 Lib.pow10Tab) :
    Calls Tryz.prog 104 #[sv, .int .i64 i, .int .i64 10] w fun e w' => ∃ v', e = .returned v' ∧ w'.ownsRow B 5 1 v' (n + (Lib.itoa i).length) (xs ++ Lib.byteCells (Lib.itoa i)) ∧ Below B w w' ∧ Lib.OthersKept 5 none w w' := Any.strconv_AppendInt_10 Tryz.laysAI B n i h0 h1 sv xs w hown hBw hlim htab
theorem byteInfo : (Tryz.prog.info? 5).map (fun i => (i.zero, i.size, i.bytes)) = some (some (.int .u8 0), 1, 1) := by kernel_rfl
theorem keyS_take (p : List Int) {k : Nat} (hk : k < p.length) : keyS (p.take (k + 1)) = keyS (p.take k) ++ Lib.itoa p[k] ++ [32] := by
  rw [List.take_succ_eq_append_getElem hk, keyS_snoc, List.append_assoc]
theorem keyS_len : (p : List Int) → (∀ x ∈ p, In64 x) → (keyS p).length ≤ 22 * p.length
  | [], _ => by simp [keyS]
  | x :: p, h => by
    have h1 := keyS_len p (fun y hy => h y (List.mem_cons_of_mem _ hy))
    have h2 := h x List.mem_cons_self
    unfold In64 at h2
    have h3 := Lib.itoa_length_le x h2.1 h2.2
    simp only [keyS, List.flatMap_cons, List.length_append, List.length_cons, List.length_nil] at h1 ⊢
    omega
set_option maxHeartbeats 6400000 in
theorem key_any (p : List Int) (A : Option Addr) (c : Nat) (w : World) (hp : IntsR w (Lt w.heap.size) p (.slice A p.length c)) (hpl : p.length ≤ 1000000) (hpi : ∀ x ∈ p, In64 x)
    (htab : Lib.TabIs Tryz.prog w "internal/strconv.uint64pow10" .u64 Lib.pow10Tab) :
    Calls Tryz.prog 78 #[.slice A p.length c] w fun e w' => e = .returned (.string ⟨(keyS p).toArray⟩) ∧ Below w.heap.size w w' := by
  obtain ⟨i0, hi, hz0, hz1, hz2⟩ := info_parts byteInfo
  have hT := Lib.hid (Lib.tabBelow_of_tabIs htab)
  obtain ⟨_, _, rs, hq, _, _, hrd, hls⟩ := hp
  cases hq
  have HX : Hid (∀ k (hk : k < p.length), ∃ g o, A = some ⟨g, o, none⟩ ∧ g < w.heap.size ∧ w.cell? ⟨g, o + k, none⟩ = some (.int .i64 p[k])) := fun k hk => by
    obtain ⟨g, o, e, hg, _, hc⟩ := ints_at hrd hls hk
    exact ⟨g, o, e, hg, hc⟩
  have HPI := hid hpi
  have HKL : Hid (∀ k, (keyS (p.take k)).length ≤ 22 * p.length) := fun k => by
    have h := keyS_len (p.take k) (fun x hx => hpi x (List.mem_of_mem_take hx))
    have h2 : (p.take k).length ≤ p.length := by simp; omega
    omega
  clear hrd hls htab hpi
  go_enter Tryz.func78, Tryz.ntmps78
  go_wp2_with fail
  go_loopw [3, 8] (fun b i wr => Below w.heap.size w wr ∧ ∃ k : Nat, k ≤ p.length ∧ i = .int .i64 k ∧ wr.ownsRow w.heap.size 5 1 b (keyS (p.take k)).length (Lib.byteCells (keyS (p.take k)))) (fun _ i _ => p.length - (intOf i).toNat)
  case atStart => exact ⟨Below.refl _ _, 0, Nat.zero_le _, rfl, World.ownsRow_nil _ _ _ _⟩
  case round =>
    obtain ⟨hb, k, hk, rfl, hown⟩ := hrel
    have HB := hid hb
    have HO := hid hown
    clear hb hown
    rcases Nat.lt_or_ge k p.length with hlt | hge
    · obtain ⟨g, o, rfl, hg, hc⟩ := HX.out k hlt
      have hcr := (HB.out.cell (p := ⟨g, o + k, none⟩) hg).trans hc
      have hin := HPI.out _ (List.getElem_mem hlt)
      have HKS := hid (keyS_take p hlt)
      have HL1 := HKL.out k
      have HL2 := hid (HKL.out (k + 1))
      have i5 : decide ((k : Int) < (p.length : Int)) = true := by rw [decide_eq_true_eq]; omega
      have i6 : (0 : Int) ≤ (k : Int) := by omega
      have i7 : (k : Int) < (p.length : Int) := by omega
      unfold In64 at hin
      generalize hks : keyS (p.take k) = ks at *
      generalize hkt : keyS (p.take (k + 1)) = kt at *
      generalize hx : p[k] = x at *
      have la := Lib.itoa_length_le x hin.1 hin.2
      have HKT := hid hkt
      clear hks hkt hx hg hc
      go_wp2_with (go_at_call 104; refine (aInt_any w.heap.size ks.length x hin.1 hin.2 _ _ wr HO.out HB.out.size (by omega) (hT.out.on HB.out)).mono ?_; rintro e w1 ⟨v1, rfl, hown1, hnx1, -⟩; refine Hid.out ?_)
      refine Lib.hid ?_
      have HNX1 := hid hnx1
      clear hnx1 hcr
      go_wp2_with (at_builtin; refine wpList_append_own _ rfl _ _ 145 rfl w.heap.size 5 i0 (.int .u8 0) 1 1 Tryz.underlying145 hi hz0 hz1 hz2 rfl (by decide) _ _ _ rfl (hown1.alloc _) ⟨w1.heap.size, 0, none⟩ 1 1 [Value.int .u8 32] rfl rfl (by intro j u' hj; match j, hj with | 0, hj => simp at hj; subst hj; simp [Addr.add]) (by intro u' hu'; simp at hu'; subst hu'; rfl) (by unfold maxLen; omega) (by omega) (by have := HNX1.out.size; have := HB.out.size; simp; omega) ?_)
      intro v2 w2 hown2 hgrow _
      have hbe : Below w.heap.size w w2 := (HB.out.trans ((HNX1.out.alloc (by have := HNX1.out.size; have := HB.out.size; omega) _).grown hgrow (by have := HNX1.out.size; have := HB.out.size; simp; omega) (fun k hk => (hown1.lt k hk).1)))
      have HBE := hid hbe
      have HO2 := hid hown2
      clear hbe hown2 hown1 hgrow
      go_wp2_with fail
      go_roundw
      case rel =>
        refine ⟨HBE.out, k + 1, by omega, by go_num, ?_⟩
        rw [HKT.out]
        have h2 := HO2.out
        rw [HKS.out]
        simpa [Lib.byteCells, Nat.add_assoc] using h2
      case measure => simp [intOf]; omega
    · have i5 : decide ((k : Int) < (p.length : Int)) = false := by rw [decide_eq_false_iff_not]; omega
      have hkl : k = p.length := by omega
      have hO := HO.out
      rw [hkl, List.take_length] at hO
      obtain ⟨l, hl⟩ : ∃ l, l = keyS p := ⟨_, rfl⟩
      rw [← hl] at hO
      have HL := hid hl
      clear hl HO HKL
      rcases hO.2 with ⟨rfl, h0⟩ | ⟨g, cap, cur, rfl, _, _, _, _, _, _⟩
      · have hl0 : l = [] := List.length_eq_zero_iff.1 h0
        subst hl0
        have hcv := fun W : World => Lib.run_convert_nil_bytes (P := Tryz.prog) W 145 9 5 0 Tryz.underlying145 Tryz.underlying5 Tryz.underlying9
        go_wp2_with fail
        go_ret
        rw [← HL.out]
        exact ⟨rfl, HB.out⟩
      · have hcv := run_convert_bytes_back (P := Tryz.prog) wr 145 9 5 ⟨g, 0, none⟩ cap l Tryz.underlying145 Tryz.underlying5 Tryz.underlying9 (fun j hj => hO.cells (g := g) rfl j _ (by simp [Lib.byteCells, hj]))
        have HBR := HB
        go_wp2_with fail
        go_ret
        rw [← HL.out]
        exact ⟨rfl, HBR.out⟩
end Go.Proofs.YtmahiejfniaahaaGreatDoor
set_option linter.unusedVariables false
set_option linter.unusedSimpArgs false
set_option maxRecDepth 100000
namespace Go.Proofs.YtmahiejfniaahaaGreatDoor
open Go.RowKit Go.WideMaps Go.ChangeMaps
def BoxPl (w : World) (S : Nat → Prop) (g o : Nat) (b : Bx) : Prop :=
  S g ∧ b.f.Ok ∧ ∃ A cap vs, Box11 w g o b.f (.slice A b.kids.length cap) vs ∧ IntsR w S b.f.src vs ∧ BoxesS w S b.kids (.slice A b.kids.length cap)
theorem BoxPl.keep {w w' : World} {S S' : Nat → Prop} {g o : Nat} {b : Bx} (h : BoxPl w S g o b) (hk : Same S w w') (hB : ∀ k, S k → S' k) : BoxPl w' S' g o b := by
  obtain ⟨h1, h2, A, cap, vs, h3, h4, h5⟩ := h
  exact ⟨hB _ h1, h2, A, cap, vs, h3.keep (fun j => hk ⟨g, j, none⟩ h1), h4.keep hk hB, h5.keep hk hB⟩
def encL (g o : Nat) (x a b : Int) : DataW Unit := .agg [.lit (.int .i64 g), .lit (.int .i64 o), .lit (.int .i64 x), .lit (.int .i64 a), .lit (.int .i64 b)]
def lineV (g o : Nat) (x a b : Int) : Value := .agg #[.pointer (some ⟨g, o, none⟩), .int .i64 x, .int .i64 a, .int .i64 b]
def lineZ : Value := .agg #[.pointer none, .int .i64 0, .int .i64 0, .int .i64 0]
def lineR (v : Value) : Option (DataW Unit × List MemPlace) := match v with
  | .agg cs => (match cs.toList with
    | [.pointer (some ⟨g, o, none⟩), .int .i64 x, .int .i64 a, .int .i64 b] => some (encL g o x a b, [])
    | [.pointer none, .int .i64 0, .int .i64 0, .int .i64 0] => some (.agg [], [])
    | _ => none)
  | _ => none
theorem lineR_v (g o : Nat) (x a b : Int) : lineR (lineV g o x a b) = some (encL g o x a b, []) := rfl
theorem lineR_z : lineR lineZ = some (.agg [], []) := rfl
theorem lineR_inv {v : Value} {g o : Nat} {x a b : Int} {ps : List MemPlace} (h : lineR v = some (encL g o x a b, ps)) : v = lineV g o x a b := by
  unfold lineR at h
  split at h
  · rename_i cs
    split at h
    · rename_i hl
      simp only [encL, Option.some.injEq, Prod.mk.injEq, DataW.agg.injEq, List.cons.injEq, DataW.lit.injEq, Lit.int.injEq, true_and, and_true] at h
      obtain ⟨⟨h1, h2, rfl, rfl, rfl⟩, _⟩ := h
      have h1 := Int.ofNat.inj h1
      have h2 := Int.ofNat.inj h2
      subst h1 h2
      have h3 : cs = cs.toList.toArray := by simp
      rw [h3, hl]; rfl
    · simp [encL] at h
    · cases h
  · cases h
theorem lineR_zinv {v : Value} {ps : List MemPlace} (h : lineR v = some (.agg [], ps)) : v = lineZ := by
  unfold lineR at h
  split at h
  · rename_i cs
    split at h
    · simp [encL] at h
    · rename_i hl
      have h3 : cs = cs.toList.toArray := by simp
      rw [h3, hl]; rfl
    · cases h
  · cases h
def FoundM (w : World) (S : Nat → Prop) (bm n : Nat) (L : List (Bx × Int × Int)) : Prop :=
  ∃ D, w.ownsMap Tryz.prog 9 lineR bm n D ∧ ∀ p : List Int, (∀ x ∈ p, 0 ≤ x) → match L.find? (isP p) with
    | none => D.atKey (.string (keyS p)) (.agg []) = .agg [] ∧ Maps.has D (.string (keyS p)) = false
    | some r => Maps.has D (.string (keyS p)) = true ∧ ∃ g o, BoxPl w S g o r.1 ∧ ∀ z, D.atKey (.string (keyS p)) z = encL g o r.2.1 (r.2.2 + r.1.f.h) (r.2.2 - r.1.f.d)
theorem FoundM.made (w : World) (S : Nat → Prop) : FoundM (w.alloc (.map #[] 0)) S w.heap.size 0 [] :=
  ⟨_, World.ownsMap_made w _ _ _, fun p _ => ⟨rfl, rfl⟩⟩
theorem FoundM.lt {w : World} {S : Nat → Prop} {bm n : Nat} {L : List (Bx × Int × Int)} (h : FoundM w S bm n L) : bm < w.heap.size := by
  obtain ⟨D, h1, _⟩ := h; exact h1.lt
theorem FoundM.keep {w w' : World} {S S' : Nat → Prop} {bm n : Nat} {L : List (Bx × Int × Int)} (h : FoundM w S bm n L) (hm : w'.heap[bm]? = w.heap[bm]?) (hk : Same S w w') (hB : ∀ k, S k → S' k) : FoundM w' S' bm n L := by
  obtain ⟨D, ⟨es, clock, hb, F, hs, hD⟩, h2⟩ := h
  refine ⟨D, ⟨es, clock, hm.trans hb, F, hs, hD⟩, fun p hp => ?_⟩
  have h3 := h2 p hp
  cases hf : L.find? (isP p) with
  | none => rw [hf] at h3; exact h3
  | some r =>
    rw [hf] at h3
    obtain ⟨h4, g, o, h5, h6⟩ := h3
    exact ⟨h4, g, o, h5.keep hk hB, h6⟩
theorem keyed : Maps.Keyed Tryz.prog 9 := Maps.string_keyed Tryz.underlying9
theorem key_of (p : List Int) (h : (keyS p).length ≤ maxLen) : keyOf Tryz.prog 9 (.string ⟨(keyS p).toArray⟩) = some (.string (keyS p)) := by
  rw [keyOf_string_mk Tryz.underlying9 (by show (keyS p).toArray.size ≤ maxLen; simpa using h)]
theorem FoundM.look {w : World} {S : Nat → Prop} {bm n : Nat} {L : List (Bx × Int × Int)} (h : FoundM w S bm n L) (p : List Int) (hp : ∀ x ∈ p, 0 ≤ x) (hl : (keyS p).length ≤ maxLen) :
    match L.find? (isP p) with
    | none => (Instr.lookup 83 (.map (some bm)) (.string ⟨(keyS p).toArray⟩) true).run Tryz.prog w = .ok (.tuple #[lineZ, .bool false]) w
    | some r => ∃ g o, BoxPl w S g o r.1 ∧ (Instr.lookup 83 (.map (some bm)) (.string ⟨(keyS p).toArray⟩) true).run Tryz.prog w = .ok (.tuple #[lineV g o r.2.1 (r.2.2 + r.1.f.h) (r.2.2 - r.1.f.d), .bool true]) w := by
  obtain ⟨D, h1, h2⟩ := h
  obtain ⟨v, ps, hrun, hR⟩ := h1.look_ok keyed Tryz.underlying83 (z := lineZ) (by kernel_rfl) lineR_z (key_of p hl)
  have h3 := h2 p hp
  cases hf : L.find? (isP p) with
  | none =>
    rw [hf] at h3
    obtain ⟨h4, h5⟩ := h3
    rw [h4] at hR
    rw [lineR_zinv hR, h5] at hrun
    exact hrun
  | some r =>
    rw [hf] at h3
    obtain ⟨h4, g, o, h5, h6⟩ := h3
    rw [h6] at hR
    rw [lineR_inv hR, h4] at hrun
    exact ⟨g, o, h5, hrun⟩
theorem FoundM.store {w : World} {S : Nat → Prop} {bm n : Nat} {L : List (Bx × Int × Int)} (h : FoundM w S bm n L) (hS : ¬ S bm) (hn : n < maxLen) (b : Bx) (x y : Int) (g o : Nat) (hb : BoxPl w S g o b) (hp : ∀ x ∈ b.f.src, 0 ≤ x) (hl : (keyS b.f.src).length ≤ maxLen) (hnew : L.find? (isP b.f.src) = none) :
    ∃ w', (Instr.mapUpdate 83 (.map (some bm)) (.string ⟨(keyS b.f.src).toArray⟩) (lineV g o x (y + b.f.h) (y - b.f.d))).run Tryz.prog w = .ok () w' ∧ FoundM w' S bm (n + 1) (L ++ [(b, x, y)]) ∧ w.mapTurned w' bm := by
  obtain ⟨D, h1, h2⟩ := h
  have hIM := h1.isMap
  obtain ⟨w', hrun, ho, ht⟩ := h1.store keyed Tryz.underlying83 hn (key_of b.f.src hl) (lineR_v g o x (y + b.f.h) (y - b.f.d))
  have hsame : Same S w w' := by
    obtain ⟨es, clock, es', clock', hb0, rfl⟩ := ht
    intro a ha
    have hne : a.block ≠ bm := fun e => hS (e ▸ ha)
    have h9 := heap_setBlock_other hb0 (.map es' clock') hne
    simp only [World.cell?, h9]
  refine ⟨w', hrun, ⟨_, ho, fun p hpp => ?_⟩, ht⟩
  have h3 := h2 p hpp
  rw [find_snoc]
  cases hf : L.find? (isP p) with
  | some r =>
    rw [hf] at h3
    obtain ⟨h4, g', o', h5, h6⟩ := h3
    have hne : Lit.string (keyS p) ≠ Lit.string (keyS b.f.src) := by
      intro e
      injection e with e
      have := key_inj p b.f.src hpp hp e
      subst this
      rw [hnew] at hf; cases hf
    exact ⟨by rw [Maps.has_put_other hne]; exact h4, g', o', h5.keep hsame (fun _ h => h), fun z => by rw [Maps.atKey_put_other hne]; exact h6 z⟩
  | none =>
    rw [hf] at h3
    by_cases he : b.f.src = p
    · subst he
      simp only [if_pos]
      exact ⟨Maps.has_put_same hIM (by simp [WideAt.IsKeyLit]) _, g, o, hb.keep hsame (fun _ h => h), fun z => Maps.atKey_put_same hIM (by simp [WideAt.IsKeyLit]) _ z⟩
    · have hne : Lit.string (keyS p) ≠ Lit.string (keyS b.f.src) := by
        intro e
        injection e with e
        exact he (key_inj p b.f.src hpp hp e).symm
      simp only [if_neg he]
      exact ⟨by rw [Maps.atKey_put_other hne]; exact h3.1, by rw [Maps.has_put_other hne]; exact h3.2⟩
end Go.Proofs.YtmahiejfniaahaaGreatDoor
set_option linter.unusedVariables false
set_option linter.unusedSimpArgs false
set_option maxRecDepth 100000
namespace Go.Proofs.YtmahiejfniaahaaGreatDoor
open Go.RowKit Go.WideMaps Go.ChangeMaps
structure OnlyM (m B : Nat) (w w' : World) : Prop where
  os : w'.os = w.os
  tape : w'.tape = w.tape
  output : w'.output = w.output
  size : w.heap.size ≤ w'.heap.size
  block : ∀ k, k < B → k ≠ m → w'.heap[k]? = w.heap[k]?
theorem OnlyM.refl (m B : Nat) (w : World) : OnlyM m B w w := ⟨rfl, rfl, rfl, Nat.le_refl _, fun _ _ _ => rfl⟩
theorem OnlyM.trans {m B : Nat} {a b c : World} (h : OnlyM m B a b) (k : OnlyM m B b c) : OnlyM m B a c :=
  ⟨k.os.trans h.os, k.tape.trans h.tape, k.output.trans h.output, Nat.le_trans h.size k.size, fun i hi hm => (k.block i hi hm).trans (h.block i hi hm)⟩
theorem OnlyM.of_below {m B : Nat} {w w' : World} (h : Below B w w') : OnlyM m B w w' := ⟨h.os, h.tape, h.output, h.size, fun k hk _ => h.block k hk⟩
theorem OnlyM.mono {m B B' : Nat} {w w' : World} (h : OnlyM m B w w') (hB : B' ≤ B) : OnlyM m B' w w' := ⟨h.os, h.tape, h.output, h.size, fun k hk hm => h.block k (by omega) hm⟩
theorem OnlyM.drew {m B : Nat} {w w' : World} (h : OnlyM m B w w') : OnlyM m B w w'.drew := ⟨h.os, h.tape, h.output, h.size, h.block⟩
theorem OnlyM.drewL {m B : Nat} {w w' : World} (h : OnlyM m B w.drew w') : OnlyM m B w w' := ⟨h.os, h.tape, h.output, h.size, h.block⟩
theorem OnlyM.of_turned {m B : Nat} {w w' : World} (h : w.mapTurned w' m) : OnlyM m B w w' := by
  obtain ⟨es, clock, es', clock', hb, rfl⟩ := h
  exact ⟨rfl, rfl, rfl, by simp [setBlock], fun k _ hm => heap_setBlock_other hb _ hm⟩
theorem OnlyM.cell {m B : Nat} {w w' : World} (h : OnlyM m B w w') {p : Addr} (hp : p.block < B) (hm : p.block ≠ m) : w'.cell? p = w.cell? p := World.cell?_of_block (w := w) (h.block p.block hp hm)
theorem OnlyM.same {m B : Nat} {w w' : World} (h : OnlyM m B w w') {S : Nat → Prop} (hS : ∀ k, S k → k < B ∧ k ≠ m) : Same S w w' := fun p hp => h.cell (hS _ hp).1 (hS _ hp).2
theorem FoundM.mono {w : World} {S : Nat → Prop} {bm n n' : Nat} {L : List (Bx × Int × Int)} (h : FoundM w S bm n L) (hn : n ≤ n') : FoundM w S bm n' L := by
  obtain ⟨D, h1, h2⟩ := h
  exact ⟨D, h1.mono hn, h2⟩
theorem FoundM.again {w : World} {S : Nat → Prop} {bm n : Nat} {L : List (Bx × Int × Int)} (h : FoundM w S bm n L) (r : Bx × Int × Int) (hr : (L.find? (isP r.1.f.src)).isSome) : FoundM w S bm n (L ++ [r]) := by
  obtain ⟨D, h1, h2⟩ := h
  refine ⟨D, h1, fun p hp => ?_⟩
  have h3 := h2 p hp
  rw [find_snoc]
  cases hf : L.find? (isP p) with
  | some s => rw [hf] at h3; exact h3
  | none =>
    rw [hf] at h3
    have hne : ¬ (r.1.f.src = p) := fun e => by rw [e, hf] at hr; cases hr
    simp only [if_neg hne]
    exact h3
theorem FoundM.only {w w' : World} {S : Nat → Prop} {bm n B : Nat} {L : List (Bx × Int × Int)} (h : FoundM w S bm n L) (hb : Below B w w') (hB : bm < B) (hS : ∀ k, S k → k < B) : FoundM w' S bm n L :=
  h.keep (hb.block bm hB) (fun p hp => hb.cell (hS _ hp)) (fun _ h => h)
end Go.Proofs.YtmahiejfniaahaaGreatDoor
