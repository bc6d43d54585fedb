/- Texts put together: TabL, Open, Close11, Close10, CloseB, CloseP. -/
import Derived.Test.YtmahiejfniaahaaGreatDoorRows
import Derived.Lib.LaidTab
import Derived.Lib.AppendIntMem
import Derived.LaidLaws
import Derived.LaidMore
import Derived.Test.YtmahiejfniaahaaGreatDoorHC
import Derived.Test.YtmahiejfniaahaaGreatDoorBasev
import Derived.ProofKit
import Derived.OpenShut
import Derived.Carry
import Derived.Test.YtmahiejfniaahaaGreatDoorGA
set_option linter.unusedVariables false
set_option linter.unusedSimpArgs false
set_option maxRecDepth 100000
namespace Go.Proofs.YtmahiejfniaahaaGreatDoor
open Go.RowKit
theorem tab_third {P : Program} {W : World} {n1 n2 name : String} {d1 d2 : DataW Unit} {k : IntKind} {zs : List Int} {g : Nat} {t e : TypeId} {n : Nat}
    (hg : P.globalNamed name = some g) (hty : (P.globals[g]?).map (·.type) = some t) (ht : P.underlying t = some (.array n e)) (he : P.underlying e = some (.int k)) (hce : P.cellsOf e = 1) (hct : P.cellsOf t = n)
    (h : laidMet P [(n1, d1), (n2, d2), (name, Lib.tabData k zs)] W) : Lib.TabIs P W name k zs := by
  obtain ⟨ps, ⟨g1, t1, cs1, f1, p1, q1, _, _, _, _, h2, _⟩, _⟩ := h
  obtain ⟨g2, t2, cs2, f2, p2, q2, _, _, _, _, h3, _⟩ := h2
  obtain ⟨g', t', cs, fuel, p, q, hg', ht', hvar, hd, _, _⟩ := h3
  obtain rfl := Option.some.inj (hg.symm.trans hg')
  obtain rfl := Option.some.inj (hty.symm.trans ht')
  unfold Lib.TabIs
  rw [hvar, ← Lib.cells_of_tab ht he hce hct hd]
theorem tab_of_laid {W : World} {n1 n2 : String} {d1 d2 : DataW Unit} (h : laidMet Tryz.prog [(n1, d1), (n2, d2), ("internal/strconv.uint64pow10", Rows.laid_internal_strconv_uint64pow10)] W) : TabOk W :=
  tab_third (g := (Tryz.prog.globalNamed "internal/strconv.uint64pow10").getD 0) (t := 183) (e := 173) (n := 20) (by kernel_rfl) (by kernel_rfl) (by kernel_rfl) (by kernel_rfl) (by kernel_rfl) (by kernel_rfl) h
end Go.Proofs.YtmahiejfniaahaaGreatDoor
set_option linter.unusedVariables false
set_option linter.unusedSimpArgs false
set_option maxRecDepth 100000
namespace Go.Proofs.YtmahiejfniaahaaGreatDoor
open Go.RowKit Go.ChangeShapes Go.WideShapes Go.ChangeAt
section
variable {H : Type} {enc : TypeId × Value → H} {w : World} {base : Nat} {spare : Nat → Bool} {held : Bool}
theorem spot_of_cell {a : Addr} {u : Value} (h : w.cell? a = some u) : a = ⟨a.block, a.off, none⟩ ∧ a.block < w.heap.size := by
  have hlt := World.block_lt_of_cell? w a h
  refine ⟨?_, hlt⟩
  obtain ⟨b, o, sp⟩ := a
  cases sp with
  | none => rfl
  | some s =>
    exfalso
    unfold World.cell? at h
    split at h
    · simp at h
    · cases h
theorem reads_of {a : Addr} {rs : List Value} (h : ∀ j u, rs[j]? = some u → w.cell? (a.add j) = some u) : Reads w (Lt w.heap.size) (some a) rs := by
  intro h0
  have h1 := h 0 _ (List.getElem?_eq_getElem h0)
  have e : a.add 0 = a := by unfold Addr.add; simp
  rw [e] at h1
  obtain ⟨h2, h3⟩ := spot_of_cell h1
  refine ⟨a.block, a.off, by rw [← h2], h3, fun j u hu => ?_⟩
  have := h j u hu
  rw [h2] at this
  unfold Addr.add at this
  split at this
  · subst j; simpa using this
  · exact this
theorem read_slice {α : Type} (E : Enc α) {t e : TypeId} (ht : Tryz.prog.underlying t = some (.slice e)) (hc : Tryz.prog.cellsOf e = E.size) {fuel : Nat} {cs : List Value} {x : DataW H × List MemPlace}
    (hE : ∀ m, m < fuel → ∀ cs x, DataW.trod enc Tryz.prog w base spare held m e cs = some x → ∃ a, E.R w (Lt w.heap.size) a cs)
    (h : DataW.trod enc Tryz.prog w base spare held fuel t cs = some x) : ∃ xs v, cs = [v] ∧ SliceR E w (Lt w.heap.size) xs v := by
  rcases DataW.trod_slice ht h with ⟨rfl, _⟩ | ⟨a, len, cap, elems, rest, n, hf, rfl, _, _, hl, hm, hlen, hel, _, _⟩
  · exact ⟨[], _, rfl, SliceR.nil_ 0 (by simp) none⟩
  · rw [hc] at hel
    have key : ∀ k, k ≤ len → ∃ (xs : List α) (rs : List Value), xs.length = k ∧ ListR E w (Lt w.heap.size) xs rs ∧ ∀ j u, rs[j]? = some u → w.cell? (a.add j) = some u := by
      intro k
      induction k with
      | zero => intro _; exact ⟨[], [], rfl, rfl, by simp⟩
      | succ k ih =>
        intro hk
        obtain ⟨xs, rs, h1, h2, h3⟩ := ih (by omega)
        have h4 := hel k (by omega)
        rw [List.getElem?_eq_getElem (by omega)] at h4
        obtain ⟨cs', h5, h6⟩ := Option.bind_eq_some_iff.1 h4
        obtain ⟨y, hy⟩ := hE n (by omega) _ _ h6
        obtain ⟨_, h7, h8⟩ := World.cells?_some h5
        refine ⟨xs ++ [y], rs ++ cs', by simp [h1], h2.append (ListR.single hy), fun j u hu => ?_⟩
        have hrl := h2.len
        rw [h1] at hrl
        by_cases hj : j < rs.length
        · rw [List.getElem?_append_left hj] at hu
          exact h3 j u hu
        · rw [List.getElem?_append_right (by omega)] at hu
          have hj2 : j - rs.length < E.size := by rw [← h7]; exact (List.getElem?_eq_some_iff.1 hu).1
          have := h8 (j - rs.length) hj2
          rw [add_of_add, show k * E.size + (j - rs.length) = j by omega] at this
          rw [this, hu]
    obtain ⟨xs, rs, h1, h2, h3⟩ := key len (Nat.le_refl _)
    subst h1
    exact ⟨xs, _, rfl, some a, cap, rs, rfl, hl, hm, reads_of h3, h2⟩
theorem cells_int : Tryz.prog.cellsOf 3 = 1 := by kernel_rfl
theorem cells_str : Tryz.prog.cellsOf 9 = 1 := by kernel_rfl
theorem cells_ints : Tryz.prog.cellsOf 26 = 1 := by kernel_rfl
theorem cells_nodes : Tryz.prog.cellsOf 22 = 1 := by kernel_rfl
theorem cells_node : Tryz.prog.cellsOf 24 = 4 := by kernel_rfl
theorem read_int {fuel : Nat} {cs : List Value} {x : DataW H × List MemPlace} (h : DataW.trod enc Tryz.prog w base spare held fuel 3 cs = some x) : ∃ n, cs = [.int .i64 n] ∧ In64 n := by
  obtain ⟨n, rfl, _, hw⟩ := DataW.trod_int Tryz.underlying3 h
  exact ⟨n, rfl, bounds_i64 hw⟩
theorem read_str {fuel : Nat} {cs : List Value} {x : DataW H × List MemPlace} (h : DataW.trod enc Tryz.prog w base spare held fuel 9 cs = some x) : ∃ s : ByteArray, cs = [.string s] ∧ s.size ≤ maxLen := by
  obtain ⟨s, rfl, _, hw⟩ := DataW.trod_string Tryz.underlying9 h
  exact ⟨s, rfl, hw⟩
theorem read_ints {fuel : Nat} {cs : List Value} {x : DataW H × List MemPlace} (h : DataW.trod enc Tryz.prog w base spare held fuel 26 cs = some x) : ∃ xs v, cs = [v] ∧ IntsR w (Lt w.heap.size) xs v :=
  read_slice intE Tryz.underlying26 cells_int (fun m _ cs x h => by obtain ⟨n, h1, h2⟩ := read_int h; exact ⟨n, h1, h2⟩) h
theorem some_of {α : Type} {l : List α} {i : Nat} {o : Option α} (h : o = l[i]?) (hi : i < l.length) : ∃ x, o = some x := ⟨l[i], by rw [h, List.getElem?_eq_getElem hi]⟩
theorem read_tree (fuel : Nat) : ∀ (cs : List Value) (x : DataW H × List MemPlace), DataW.trod enc Tryz.prog w base spare held fuel 24 cs = some x → ∃ t, TreeR w (Lt w.heap.size) t cs := by
  induction fuel using Nat.strongRecOn with
  | ind fuel ih =>
  intro cs x h
  obtain ⟨xs, n, hfu, hx, hlen, hxl, hf⟩ := DataW.trod_struct Tryz.underlying24 h
  rw [cells_node] at hlen
  match cs, hlen with
  | [c0, c1, c2, c3], _ =>
    have g0 : DataW.trod enc Tryz.prog w base spare held n 3 (([c0, c1, c2, c3].drop 0).take (Tryz.prog.cellsOf 3)) = xs[0]? := hf 0 _ rfl
    rw [cells_int] at g0
    have f0 : DataW.trod enc Tryz.prog w base spare held n 3 [c0] = xs[0]? := g0
    have g1 : DataW.trod enc Tryz.prog w base spare held n 9 (([c0, c1, c2, c3].drop 1).take (Tryz.prog.cellsOf 9)) = xs[1]? := hf 1 _ rfl
    rw [cells_str] at g1
    have f1 : DataW.trod enc Tryz.prog w base spare held n 9 [c1] = xs[1]? := g1
    have g2 : DataW.trod enc Tryz.prog w base spare held n 3 (([c0, c1, c2, c3].drop 2).take (Tryz.prog.cellsOf 3)) = xs[2]? := hf 2 _ rfl
    rw [cells_int] at g2
    have f2 : DataW.trod enc Tryz.prog w base spare held n 3 [c2] = xs[2]? := g2
    have g3 : DataW.trod enc Tryz.prog w base spare held n 22 (([c0, c1, c2, c3].drop 3).take (Tryz.prog.cellsOf 22)) = xs[3]? := hf 3 _ rfl
    rw [cells_nodes] at g3
    have f3 : DataW.trod enc Tryz.prog w base spare held n 22 [c3] = xs[3]? := g3
    have hxl' : xs.length = 4 := hxl
    obtain ⟨y0, e0⟩ := some_of f0 (by omega)
    obtain ⟨y1, e1⟩ := some_of f1 (by omega)
    obtain ⟨y2, e2⟩ := some_of f2 (by omega)
    obtain ⟨y3, e3⟩ := some_of f3 (by omega)
    obtain ⟨k, q0, hk⟩ := read_int e0
    obtain ⟨s, q1, hs⟩ := read_str e1
    obtain ⟨c, q2, hc⟩ := read_int e2
    obtain ⟨ts, v, q3, hts⟩ := read_slice treeE Tryz.underlying22 cells_node (fun m hm cs x h => ih m (by omega) cs x h) e3
    simp only [List.cons.injEq, and_true] at q0 q1 q2 q3
    subst q0 q1 q2 q3
    exact ⟨.mk k s c ts, treeR_mk.2 ⟨_, rfl, hk, hc, hs, hts⟩⟩
theorem law_post {f : Func} {s : ChangeSpec} {W W' : World} {args : Array Value} {ds gs : List (DataW H)} {before : List MemPlace}
    (hvars : s.vars = []) (hres : f.resultTypes = #[4]) (hspec : s.fn H ds = { results := [.lit (.bool true)], args := ds })
    (hl : laidOutB Tryz.prog = true) (hr : ∀ t ∈ f.params.toList, Tryz.prog.readableRec t = true ∧ t < Tryz.prog.types.size)
    (hW : DataW.Whole enc Tryz.prog f.params.toList s.vars false W args.toList ds gs before) (hb : Below W.heap.size W W') :
    s.post enc Tryz.prog f false true false false W args (.bool true) W' := by
  have hlt : ∀ p ∈ before, p.block < W.heap.size := fun p hp => hW.lt p hp
  have hold : ∀ p ∈ before, (fun b => decide (b < W.heap.size)) p.block = true := fun p hp => by simpa using hlt p hp
  have hW0 := hW
  obtain ⟨p, q, hA, hV, rfl, hz, hn⟩ := hW
  rw [hvars] at hV
  obtain ⟨rfl, rfl⟩ := trodVars_none hV
  have carry : ∀ (ts : List TypeId) (vs : List Value) (ds : List (DataW H)) (ps : List MemPlace), (∀ t ∈ ts, Tryz.prog.readableRec t = true ∧ t < Tryz.prog.types.size) → (∀ x ∈ ps, x ∈ p ++ []) → DataW.TrodAll enc Tryz.prog W 0 (fun _ => true) true ts vs ds ps →
      ∀ sp : Nat → Bool, (∀ x ∈ p ++ [], sp x.block = true) → DataW.TrodAll enc Tryz.prog W' 0 sp true ts vs ds ps := by
    intro ts
    induction ts with
    | nil =>
      intro vs ds ps _ _ h sp _
      cases vs <;> cases ds <;> simp [DataW.TrodAll] at h
      subst h
      exact trodAll_mk0
    | cons t ts ih =>
      intro vs ds ps hr' hin h sp hsp
      obtain ⟨v, vs', d, ds', p', q', rfl, rfl, rfl, h1, h2⟩ := trodAll_cons h
      refine ⟨p', q', ?_, ih vs' ds' q' (fun t' ht' => hr' t' (by simp [ht'])) (fun x hx => hin x (by simp [hx])) h2 sp hsp, rfl⟩
      exact WideElems.Trod_stays hl (hr' t (by simp)).1 (hr' t (by simp)).2 h1 (fun x hx => hb.same (hlt x (hin x (by simp [hx])))) (fun x hx => hsp x (hin x (by simp [hx])))
  have hargs := carry f.params.toList args.toList ds p hr (fun x hx => by simpa using hx) hA
  have hresd : ∀ (b : Nat) (sp : Nat → Bool) (hd : Bool), DataW.TrodAll enc Tryz.prog W' b sp hd f.resultTypes.toList ((Value.bool true).resultList f.resultTypes.size) (s.fn H (ds ++ [])).results [] := by
    intro b sp hd
    rw [List.append_nil, hspec, hres]
    exact ⟨[], [], shut_bool Tryz.underlying4 true, trodAll_mk0, rfl⟩
  have hok : ∀ (j : Nat) (t : TypeId) (r : Value), f.resultTypes[j]? = some t → ((Value.bool true).resultList f.resultTypes.size)[j]? = some r → Value.okWide Tryz.prog W' .any 0 t r :=
    ok_one hres rfl (okWide_bool_mk Tryz.underlying4 _)
  have hargs' : ∀ sp : Nat → Bool, (∀ x ∈ p ++ [], sp x.block = true) → DataW.TrodAll enc Tryz.prog W' 0 sp true f.params.toList args.toList (s.fn H (ds ++ [])).args p := by
    intro sp hsp
    rw [List.append_nil, hspec]
    exact hargs sp hsp
  have hvars' : ∀ sp : Nat → Bool, (∀ x ∈ p ++ [], sp x.block = true) → DataW.TrodVars enc Tryz.prog W' sp s.vars (s.fn H (ds ++ [])).vars [] := by
    intro sp _
    rw [List.append_nil, hspec, hvars]
    rfl
  refine ⟨ds, [], p ++ [], [], p, [], hW0, hresd _ _ _, hargs' _ hold, hvars' _ hold, World.keptBut_mono (fun x hx => ⟨hx, by simpa using hx⟩) (hb.frame (· ∈ p ++ [])), fun _ => ?_⟩
  refine ⟨hok, _, _, ([] ++ p) ++ [], ⟨[] ++ p, [], trodAll_append (hargs' _ (fun _ _ => rfl)) (hresd _ _ _), hvars' _ (fun _ _ => rfl), rfl, ?_, ?_⟩, ?_⟩
  · intro b off hp
    have hin : MemPlace.cell b off ∈ p ++ [] := by simpa using hp
    rw [hb.frozen (hlt _ hin)]
    exact hz b off hin
  · intro ha; cases ha
  · intro x hx _
    simpa using hx
end
end Go.Proofs.YtmahiejfniaahaaGreatDoor
set_option linter.unusedVariables false
set_option linter.unusedSimpArgs false
set_option maxRecDepth 100000
namespace Go.Proofs.YtmahiejfniaahaaGreatDoor
open Go.RowKit Go.ChangeShapes Go.WideShapes Go.ChangeAt
theorem own : ownKnob Tryz.prog.godebug = none := by kernel_rfl
theorem laidOut : laidOutB Tryz.prog = true := by kernel_rfl
theorem rd_node : Tryz.prog.readableRec 24 = true ∧ 24 < Tryz.prog.types.size := ⟨by kernel_rfl, of_decide_eq_true (by kernel_rfl)⟩
section
variable {H : Type} {enc : TypeId × Value → H} {w : World} {base : Nat} {spare : Nat → Bool} {held : Bool}
theorem open_node {r : Reach} {b0 : Nat} {v : Value} {d : DataW H} {ps : List MemPlace} (hv : Value.okWide Tryz.prog w r b0 24 v) (h : DataW.Trod enc Tryz.prog w base spare held 24 v d ps) :
    ∃ (t : Tree) (A : Option Addr) (c : Nat), v = .agg #[.int .i64 t.kind, .string t.text, .int .i64 t.cols, .slice A t.kids.length c] ∧ In64 t.kind ∧ In64 t.cols ∧ t.text.size ≤ maxLen ∧ TreesS w (Lt w.heap.size) t.kids (.slice A t.kids.length c) := by
  obtain ⟨cs, rfl, hsz⟩ := okWide_struct Tryz.underlying24 hv
  obtain ⟨fuel, hf⟩ := h
  obtain ⟨t, ht⟩ := read_tree fuel _ _ hf
  obtain ⟨v, hcs, h1, h2, h3, h4⟩ := treeR_mk.1 ht
  obtain ⟨A, c, rfl⟩ := h4.form
  refine ⟨t, A, c, ?_, h1, h2, h3, h4⟩
  congr 1
  exact Array.toList_inj.1 hcs
end
end Go.Proofs.YtmahiejfniaahaaGreatDoor
set_option linter.unusedVariables false
set_option linter.unusedSimpArgs false
set_option maxRecDepth 100000
namespace Go.Proofs.YtmahiejfniaahaaGreatDoor
open Go.RowKit Go.ChangeShapes Go.WideShapes Go.ChangeAt
section
variable {H : Type} {enc : TypeId × Value → H} {w : World} {base : Nat} {spare : Nat → Bool} {held : Bool}
end
end Go.Proofs.YtmahiejfniaahaaGreatDoor
set_option linter.unusedVariables false
set_option linter.unusedSimpArgs false
set_option maxRecDepth 100000
namespace Go.Proofs.YtmahiejfniaahaaGreatDoor
open Go.RowKit Go.ChangeShapes Go.WideShapes Go.ChangeAt
theorem rd_box : Tryz.prog.readableRec 28 = true ∧ 28 < Tryz.prog.types.size := ⟨by kernel_rfl, of_decide_eq_true (by kernel_rfl)⟩
theorem cells_box : Tryz.prog.cellsOf 28 = 11 := by kernel_rfl
theorem cells_boxes : Tryz.prog.cellsOf 25 = 1 := by kernel_rfl
section
variable {H : Type} {enc : TypeId × Value → H} {w : World} {base : Nat} {spare : Nat → Bool} {held : Bool}
set_option maxHeartbeats 1000000 in
theorem read_box (fuel : Nat) : ∀ (cs : List Value) (x : DataW H × List MemPlace), DataW.trod enc Tryz.prog w base spare held fuel 28 cs = some x → ∃ t, BoxR w (Lt w.heap.size) t cs := by
  induction fuel using Nat.strongRecOn with
  | ind fuel ih =>
  intro cs x h
  obtain ⟨xs, n, hfu, hx, hlen, hxl, hf⟩ := DataW.trod_struct Tryz.underlying28 h
  rw [cells_box] at hlen
  match cs, hlen with
  | [c0, c1, c2, c3, c4, c5, c6, c7, c8, c9, c10], _ =>
    have g0 : DataW.trod enc Tryz.prog w base spare held n 3 (([c0, c1, c2, c3, c4, c5, c6, c7, c8, c9, c10].drop 0).take (Tryz.prog.cellsOf 3)) = xs[0]? := hf 0 _ rfl
    rw [cells_int] at g0
    have f0 : DataW.trod enc Tryz.prog w base spare held n 3 [c0] = xs[0]? := g0
    have g1 : DataW.trod enc Tryz.prog w base spare held n 9 (([c0, c1, c2, c3, c4, c5, c6, c7, c8, c9, c10].drop 1).take (Tryz.prog.cellsOf 9)) = xs[1]? := hf 1 _ rfl
    rw [cells_str] at g1
    have f1 : DataW.trod enc Tryz.prog w base spare held n 9 [c1] = xs[1]? := g1
    have g2 : DataW.trod enc Tryz.prog w base spare held n 3 (([c0, c1, c2, c3, c4, c5, c6, c7, c8, c9, c10].drop 2).take (Tryz.prog.cellsOf 3)) = xs[2]? := hf 2 _ rfl
    rw [cells_int] at g2
    have f2 : DataW.trod enc Tryz.prog w base spare held n 3 [c2] = xs[2]? := g2
    have g3 : DataW.trod enc Tryz.prog w base spare held n 3 (([c0, c1, c2, c3, c4, c5, c6, c7, c8, c9, c10].drop 3).take (Tryz.prog.cellsOf 3)) = xs[3]? := hf 3 _ rfl
    rw [cells_int] at g3
    have f3 : DataW.trod enc Tryz.prog w base spare held n 3 [c3] = xs[3]? := g3
    have g4 : DataW.trod enc Tryz.prog w base spare held n 3 (([c0, c1, c2, c3, c4, c5, c6, c7, c8, c9, c10].drop 4).take (Tryz.prog.cellsOf 3)) = xs[4]? := hf 4 _ rfl
    rw [cells_int] at g4
    have f4 : DataW.trod enc Tryz.prog w base spare held n 3 [c4] = xs[4]? := g4
    have g5 : DataW.trod enc Tryz.prog w base spare held n 3 (([c0, c1, c2, c3, c4, c5, c6, c7, c8, c9, c10].drop 5).take (Tryz.prog.cellsOf 3)) = xs[5]? := hf 5 _ rfl
    rw [cells_int] at g5
    have f5 : DataW.trod enc Tryz.prog w base spare held n 3 [c5] = xs[5]? := g5
    have g6 : DataW.trod enc Tryz.prog w base spare held n 3 (([c0, c1, c2, c3, c4, c5, c6, c7, c8, c9, c10].drop 6).take (Tryz.prog.cellsOf 3)) = xs[6]? := hf 6 _ rfl
    rw [cells_int] at g6
    have f6 : DataW.trod enc Tryz.prog w base spare held n 3 [c6] = xs[6]? := g6
    have g7 : DataW.trod enc Tryz.prog w base spare held n 3 (([c0, c1, c2, c3, c4, c5, c6, c7, c8, c9, c10].drop 7).take (Tryz.prog.cellsOf 3)) = xs[7]? := hf 7 _ rfl
    rw [cells_int] at g7
    have f7 : DataW.trod enc Tryz.prog w base spare held n 3 [c7] = xs[7]? := g7
    have g8 : DataW.trod enc Tryz.prog w base spare held n 25 (([c0, c1, c2, c3, c4, c5, c6, c7, c8, c9, c10].drop 8).take (Tryz.prog.cellsOf 25)) = xs[8]? := hf 8 _ rfl
    rw [cells_boxes] at g8
    have f8 : DataW.trod enc Tryz.prog w base spare held n 25 [c8] = xs[8]? := g8
    have g9 : DataW.trod enc Tryz.prog w base spare held n 3 (([c0, c1, c2, c3, c4, c5, c6, c7, c8, c9, c10].drop 9).take (Tryz.prog.cellsOf 3)) = xs[9]? := hf 9 _ rfl
    rw [cells_int] at g9
    have f9 : DataW.trod enc Tryz.prog w base spare held n 3 [c9] = xs[9]? := g9
    have g10 : DataW.trod enc Tryz.prog w base spare held n 26 (([c0, c1, c2, c3, c4, c5, c6, c7, c8, c9, c10].drop 10).take (Tryz.prog.cellsOf 26)) = xs[10]? := hf 10 _ rfl
    rw [cells_ints] at g10
    have f10 : DataW.trod enc Tryz.prog w base spare held n 26 [c10] = xs[10]? := g10
    have hxl' : xs.length = 11 := hxl
    obtain ⟨y0, e0⟩ := some_of f0 (by omega)
    obtain ⟨y1, e1⟩ := some_of f1 (by omega)
    obtain ⟨y2, e2⟩ := some_of f2 (by omega)
    obtain ⟨y3, e3⟩ := some_of f3 (by omega)
    obtain ⟨y4, e4⟩ := some_of f4 (by omega)
    obtain ⟨y5, e5⟩ := some_of f5 (by omega)
    obtain ⟨y6, e6⟩ := some_of f6 (by omega)
    obtain ⟨y7, e7⟩ := some_of f7 (by omega)
    obtain ⟨y8, e8⟩ := some_of f8 (by omega)
    obtain ⟨y9, e9⟩ := some_of f9 (by omega)
    obtain ⟨y10, e10⟩ := some_of f10 (by omega)
    obtain ⟨k, q0, h0⟩ := read_int e0
    obtain ⟨s, q1, h1⟩ := read_str e1
    obtain ⟨sz, q2, h2⟩ := read_int e2
    obtain ⟨bw, q3, h3⟩ := read_int e3
    obtain ⟨bh, q4, h4⟩ := read_int e4
    obtain ⟨bd, q5, h5⟩ := read_int e5
    obtain ⟨bx, q6, h6⟩ := read_int e6
    obtain ⟨by_, q7, h7⟩ := read_int e7
    obtain ⟨ks, vk, q8, h8⟩ := read_slice boxE Tryz.underlying25 cells_box (fun m hm cs x h => ih m (by omega) cs x h) e8
    obtain ⟨of_, q9, h9⟩ := read_int e9
    obtain ⟨src, vs, q10, h10⟩ := read_ints e10
    simp only [List.cons.injEq, and_true] at q0 q1 q2 q3 q4 q5 q6 q7 q8 q9 q10
    subst q0 q1 q2 q3 q4 q5 q6 q7 q8 q9 q10
    exact ⟨.mk ⟨k, s, sz, bw, bh, bd, bx, by_, of_, src⟩ ks, boxR_mk.2 ⟨_, _, rfl, ⟨h0, h1, h2, h3, h4, h5, h6, h7, h9⟩, h10, h8⟩⟩
theorem open_box {r : Reach} {b0 : Nat} {v : Value} {d : DataW H} {ps : List MemPlace} (hv : Value.okWide Tryz.prog w r b0 28 v) (h : DataW.Trod enc Tryz.prog w base spare held 28 v d ps) :
    ∃ (b : Bx) (A As : Option Addr) (c cs : Nat), v = .agg (boxC b.f (.slice A b.kids.length c) (.slice As b.f.src.length cs)) ∧ b.f.Ok ∧ IntsR w (Lt w.heap.size) b.f.src (.slice As b.f.src.length cs) ∧ BoxesS w (Lt w.heap.size) b.kids (.slice A b.kids.length c) := by
  obtain ⟨cs, rfl, hsz⟩ := okWide_struct Tryz.underlying28 hv
  obtain ⟨fuel, hf⟩ := h
  obtain ⟨t, ht⟩ := read_box fuel _ _ hf
  obtain ⟨vk, vs, hcs, h1, h2, h4⟩ := boxR_mk.1 ht
  obtain ⟨A, c, rfl⟩ := h4.form
  obtain ⟨As, c2, rfl⟩ := h2.form
  refine ⟨t, A, As, c, c2, ?_, h1, h2, h4⟩
  congr 1
  exact Array.toList_inj.1 hcs
end
end Go.Proofs.YtmahiejfniaahaaGreatDoor
set_option linter.unusedVariables false
set_option linter.unusedSimpArgs false
set_option maxRecDepth 100000
namespace Go.Proofs.YtmahiejfniaahaaGreatDoor
open Go.RowKit Go.ChangeShapes Go.WideShapes Go.ChangeAt
theorem rd_case : Tryz.prog.readableRec 62 = true ∧ 62 < Tryz.prog.types.size := ⟨by kernel_rfl, of_decide_eq_true (by kernel_rfl)⟩
section
variable {H : Type} {enc : TypeId × Value → H} {w : World} {base : Nat} {spare : Nat → Bool} {held : Bool}
theorem open_case {r : Reach} {b0 : Nat} {v : Value} {d : DataW H} {ps : List MemPlace} (hv : Value.okWide Tryz.prog w r b0 62 v) (h : DataW.Trod enc Tryz.prog w base spare held 62 v d ps) :
    ∃ (p : List Int) (n : Int) (A : Option Addr) (c : Nat), v = .agg #[.slice A p.length c, .int .i64 n] ∧ In64 n ∧ IntsR w (Lt w.heap.size) p (.slice A p.length c) := by
  have hc : Tryz.prog.cellsOf 62 = 2 := by kernel_rfl
  obtain ⟨cs, rfl, hsz⟩ := okWide_struct Tryz.underlying62 hv
  rw [hc] at hsz
  obtain ⟨fuel, hf⟩ := h
  obtain ⟨xs, n, hfu, hx, hlen, hxl, hg⟩ := DataW.trod_struct Tryz.underlying62 hf
  obtain ⟨cs⟩ := cs
  match cs, hsz with
  | [c0, c1], _ =>
    have g0 : DataW.trod enc Tryz.prog w base spare held n 26 (([c0, c1].drop 0).take (Tryz.prog.cellsOf 26)) = xs[0]? := hg 0 _ rfl
    have g1 : DataW.trod enc Tryz.prog w base spare held n 3 (([c0, c1].drop 1).take (Tryz.prog.cellsOf 3)) = xs[1]? := hg 1 _ rfl
    rw [cells_ints] at g0
    rw [cells_int] at g1
    have f0 : DataW.trod enc Tryz.prog w base spare held n 26 [c0] = xs[0]? := g0
    have f1 : DataW.trod enc Tryz.prog w base spare held n 3 [c1] = xs[1]? := g1
    have hxl' : xs.length = 2 := hxl
    obtain ⟨y0, e0⟩ := some_of f0 (by omega)
    obtain ⟨y1, e1⟩ := some_of f1 (by omega)
    obtain ⟨p, vp, q0, h0⟩ := read_ints e0
    obtain ⟨k, q1, h1⟩ := read_int e1
    simp only [List.cons.injEq, and_true] at q0 q1
    subst q0 q1
    obtain ⟨A, c, rfl⟩ := h0.form
    exact ⟨p, k, A, c, rfl, h1, h0⟩
end
end Go.Proofs.YtmahiejfniaahaaGreatDoor
