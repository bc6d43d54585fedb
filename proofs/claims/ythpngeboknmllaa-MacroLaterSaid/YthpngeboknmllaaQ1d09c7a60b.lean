/- Texts put together. -/
import Derived.Test.YthpngeboknmllaaQe06f35c01b
import Derived.ProofKit
import Derived.OpenShut
import Derived.Carry
set_option linter.unusedVariables false
set_option linter.unusedSimpArgs false
set_option maxRecDepth 100000
namespace Go.Proofs.Ythpngeboknmllaa
open Go.RowKit Go.ChangeShapes Go.WideShapes Go.ChangeAt
section
variable {H:Type} {enc:TypeId × Value→H} {w:World} {base:Nat} {spare:Nat→Bool} {held:Bool}
theorem spot_of_cell {a : Addr} {u : Value} (h : w.cell? a = some u) : a = ⟨a.block, a.off, none⟩ ∧ a.block < w.heap.size := by
  have hlt := World.block_lt_of_cell? w a h
  refine ⟨?_, hlt⟩
  obtain ⟨b, o, sp⟩ := a
  cases sp with
  | none => rfl
  | some s =>
    exfalso
    unfold World.cell? at h
    split at h
    · simp at h
    · cases h
theorem reads_of {a:Addr} {rs:List Value} (h:∀ j u,rs[j]? = some u→w.cell? (a.add j) = some u):Reads w (Lt w.heap.size) (some a) rs:=by
 intro h0
 have h1:=h 0 _ (List.getElem?_eq_getElem h0)
 have e:a.add 0 = a:=by unfold Addr.add;simp
 rw [e] at h1
 obtain ⟨h2,h3⟩:=spot_of_cell h1
 refine ⟨a.block,a.off,by rw [← h2],h3,fun j u hu=>?_⟩
 have:=h j u hu
 rw [h2] at this
 unfold Addr.add at this
 split at this
 ·subst j;simpa using this
 ·exact this
theorem read_slice {α : Type} (E : Enc α) {t e : TypeId} (ht : Try.prog.underlying t = some (.slice e)) (hc : Try.prog.cellsOf e = E.size) {fuel : Nat} {cs : List Value} {x : DataW H × List MemPlace}
    (hE : ∀ m, m < fuel → ∀ cs x, DataW.trod enc Try.prog w base spare held m e cs = some x → ∃ a, E.R w (Lt w.heap.size) a cs)
    (h : DataW.trod enc Try.prog w base spare held fuel t cs = some x) : ∃ xs v, cs = [v] ∧ SliceR E w (Lt w.heap.size) xs v := by
  rcases DataW.trod_slice ht h with ⟨rfl, _⟩ | ⟨a, len, cap, elems, rest, n, hf, rfl, _, _, hl, hm, hlen, hel, _, _⟩
  · exact ⟨[], _, rfl, SliceR.nil_ 0 (by simp) none⟩
  · rw [hc] at hel
    have key : ∀ k, k ≤ len → ∃ (xs : List α) (rs : List Value), xs.length = k ∧ ListR E w (Lt w.heap.size) xs rs ∧ ∀ j u, rs[j]? = some u → w.cell? (a.add j) = some u := by
      intro k
      induction k with
      | zero => intro _; exact ⟨[], [], rfl, rfl, by simp⟩
      | succ k ih =>
        intro hk
        obtain ⟨xs, rs, h1, h2, h3⟩ := ih (by omega)
        have h4 := hel k (by omega)
        rw [List.getElem?_eq_getElem (by omega)] at h4
        obtain ⟨cs', h5, h6⟩ := Option.bind_eq_some_iff.1 h4
        obtain ⟨y, hy⟩ := hE n (by omega) _ _ h6
        obtain ⟨_, h7, h8⟩ := World.cells?_some h5
        refine ⟨xs ++ [y], rs ++ cs', by simp [h1], h2.append (ListR.single hy), fun j u hu => ?_⟩
        have hrl := h2.len
        rw [h1] at hrl
        by_cases hj : j < rs.length
        · rw [List.getElem?_append_left hj] at hu
          exact h3 j u hu
        · rw [List.getElem?_append_right (by omega)] at hu
          have hj2 : j - rs.length < E.size := by rw [← h7]; exact (List.getElem?_eq_some_iff.1 hu).1
          have := h8 (j - rs.length) hj2
          rw [add_of_add, show k * E.size + (j - rs.length) = j by omega] at this
          rw [this, hu]
    obtain ⟨xs, rs, h1, h2, h3⟩ := key len (Nat.le_refl _)
    subst h1
    exact ⟨xs, _, rfl, some a, cap, rs, rfl, hl, hm, reads_of h3, h2⟩
theorem cells_int:Try.prog.cellsOf 3 = 1:=by kernel_rfl
theorem cells_str:Try.prog.cellsOf 9 = 1:=by kernel_rfl
theorem cells_nodes:Try.prog.cellsOf 23 = 1:=by kernel_rfl
theorem cells_node:Try.prog.cellsOf 31 = 4:=by kernel_rfl
theorem read_int {fuel:Nat} {cs:List Value} {x:DataW H × List MemPlace} (h:DataW.trod enc Try.prog w base spare held fuel 3 cs = some x):∃ n,cs = [.int .i64 n]∧In64 n:=by
 obtain ⟨n,rfl,_,hw⟩:=DataW.trod_int Try.underlying3 h
 exact ⟨n,rfl,bounds_i64 hw⟩
theorem read_str {fuel:Nat} {cs:List Value} {x:DataW H × List MemPlace} (h:DataW.trod enc Try.prog w base spare held fuel 9 cs = some x):∃ s:ByteArray,cs = [.string s]∧s.size≤maxLen:=by
 obtain ⟨s,rfl,_,hw⟩:=DataW.trod_string Try.underlying9 h
 exact ⟨s,rfl,hw⟩
theorem some_of {α:Type} {l:List α} {i:Nat} {o:Option α} (h:o = l[i]?) (hi:i < l.length):∃ x,o = some x:=⟨l[i],by rw [h,List.getElem?_eq_getElem hi]⟩
theorem read_tree (fuel : Nat) : ∀ (cs : List Value) (x : DataW H × List MemPlace), DataW.trod enc Try.prog w base spare held fuel 31 cs = some x → ∃ t, TreeR w (Lt w.heap.size) t cs := by
  induction fuel using Nat.strongRecOn with
  | ind fuel ih =>
  intro cs x h
  obtain ⟨xs, n, hfu, hx, hlen, hxl, hf⟩ := DataW.trod_struct Try.underlying31 h
  rw [cells_node] at hlen
  match cs, hlen with
  | [c0, c1, c2, c3], _ =>
    have g0 : DataW.trod enc Try.prog w base spare held n 3 (([c0, c1, c2, c3].drop 0).take (Try.prog.cellsOf 3)) = xs[0]? := hf 0 _ rfl
    rw [cells_int] at g0
    have f0 : DataW.trod enc Try.prog w base spare held n 3 [c0] = xs[0]? := g0
    have g1 : DataW.trod enc Try.prog w base spare held n 9 (([c0, c1, c2, c3].drop 1).take (Try.prog.cellsOf 9)) = xs[1]? := hf 1 _ rfl
    rw [cells_str] at g1
    have f1 : DataW.trod enc Try.prog w base spare held n 9 [c1] = xs[1]? := g1
    have g2 : DataW.trod enc Try.prog w base spare held n 3 (([c0, c1, c2, c3].drop 2).take (Try.prog.cellsOf 3)) = xs[2]? := hf 2 _ rfl
    rw [cells_int] at g2
    have f2 : DataW.trod enc Try.prog w base spare held n 3 [c2] = xs[2]? := g2
    have g3 : DataW.trod enc Try.prog w base spare held n 23 (([c0, c1, c2, c3].drop 3).take (Try.prog.cellsOf 23)) = xs[3]? := hf 3 _ rfl
    rw [cells_nodes] at g3
    have f3 : DataW.trod enc Try.prog w base spare held n 23 [c3] = xs[3]? := g3
    have hxl' : xs.length = 4 := hxl
    obtain ⟨y0, e0⟩ := some_of f0 (by omega)
    obtain ⟨y1, e1⟩ := some_of f1 (by omega)
    obtain ⟨y2, e2⟩ := some_of f2 (by omega)
    obtain ⟨y3, e3⟩ := some_of f3 (by omega)
    obtain ⟨k, q0, hk⟩ := read_int e0
    obtain ⟨s, q1, hs⟩ := read_str e1
    obtain ⟨c, q2, hc⟩ := read_int e2
    obtain ⟨ts, v, q3, hts⟩ := read_slice treeE Try.underlying23 cells_node (fun m hm cs x h => ih m (by omega) cs x h) e3
    simp only [List.cons.injEq, and_true] at q0 q1 q2 q3
    subst q0 q1 q2 q3
    exact ⟨.mk k s c ts, treeR_mk.2 ⟨_, rfl, hk, hc, hs, hts⟩⟩
theorem read_nodes {fuel:Nat} {cs:List Value} {x:DataW H × List MemPlace} (h:DataW.trod enc Try.prog w base spare held fuel 23 cs = some x):∃ ts v,cs = [v]∧TreesS w (Lt w.heap.size) ts v :=
 read_slice treeE Try.underlying23 cells_node (fun m _ cs x h=>read_tree m cs x h) h
theorem law_post {f : Func} {s : ChangeSpec} {W W' : World} {args : Array Value} {ds gs : List (DataW H)} {before : List MemPlace}
    (hvars : s.vars = []) (hres : f.resultTypes = #[4]) (hspec : s.fn H ds = { results := [.lit (.bool true)], args := ds })
    (hl : laidOutB Try.prog = true) (hr : ∀ t ∈ f.params.toList, Try.prog.readableRec t = true ∧ t < Try.prog.types.size)
    (hW : DataW.Whole enc Try.prog f.params.toList s.vars false W args.toList ds gs before) (hb : Below W.heap.size W W') :
    s.post enc Try.prog f false true false false W args (.bool true) W' := by
  have hlt : ∀ p ∈ before, p.block < W.heap.size := fun p hp => hW.lt p hp
  have hold : ∀ p ∈ before, (fun b => decide (b < W.heap.size)) p.block = true := fun p hp => by simpa using hlt p hp
  have hW0 := hW
  obtain ⟨p, q, hA, hV, rfl, hz, hn⟩ := hW
  rw [hvars] at hV
  obtain ⟨rfl, rfl⟩ := trodVars_none hV
  have carry : ∀ (ts : List TypeId) (vs : List Value) (ds : List (DataW H)) (ps : List MemPlace), (∀ t ∈ ts, Try.prog.readableRec t = true ∧ t < Try.prog.types.size) → (∀ x ∈ ps, x ∈ p ++ []) → DataW.TrodAll enc Try.prog W 0 (fun _ => true) true ts vs ds ps →
      ∀ sp : Nat → Bool, (∀ x ∈ p ++ [], sp x.block = true) → DataW.TrodAll enc Try.prog W' 0 sp true ts vs ds ps := by
    intro ts
    induction ts with
    | nil =>
      intro vs ds ps _ _ h sp _
      cases vs <;> cases ds <;> simp [DataW.TrodAll] at h
      subst h
      exact trodAll_mk0
    | cons t ts ih =>
      intro vs ds ps hr' hin h sp hsp
      obtain ⟨v, vs', d, ds', p', q', rfl, rfl, rfl, h1, h2⟩ := trodAll_cons h
      refine ⟨p', q', ?_, ih vs' ds' q' (fun t' ht' => hr' t' (by simp [ht'])) (fun x hx => hin x (by simp [hx])) h2 sp hsp, rfl⟩
      exact WideElems.Trod_stays hl (hr' t (by simp)).1 (hr' t (by simp)).2 h1 (fun x hx => hb.same (hlt x (hin x (by simp [hx])))) (fun x hx => hsp x (hin x (by simp [hx])))
  have hargs := carry f.params.toList args.toList ds p hr (fun x hx => by simpa using hx) hA
  have hresd : ∀ (b : Nat) (sp : Nat → Bool) (hd : Bool), DataW.TrodAll enc Try.prog W' b sp hd f.resultTypes.toList ((Value.bool true).resultList f.resultTypes.size) (s.fn H (ds ++ [])).results [] := by
    intro b sp hd
    rw [List.append_nil, hspec, hres]
    exact ⟨[], [], shut_bool Try.underlying4 true, trodAll_mk0, rfl⟩
  have hok : ∀ (j : Nat) (t : TypeId) (r : Value), f.resultTypes[j]? = some t → ((Value.bool true).resultList f.resultTypes.size)[j]? = some r → Value.okWide Try.prog W' .any 0 t r :=
    ok_one hres rfl (okWide_bool_mk Try.underlying4 _)
  have hargs' : ∀ sp : Nat → Bool, (∀ x ∈ p ++ [], sp x.block = true) → DataW.TrodAll enc Try.prog W' 0 sp true f.params.toList args.toList (s.fn H (ds ++ [])).args p := by
    intro sp hsp
    rw [List.append_nil, hspec]
    exact hargs sp hsp
  have hvars' : ∀ sp : Nat → Bool, (∀ x ∈ p ++ [], sp x.block = true) → DataW.TrodVars enc Try.prog W' sp s.vars (s.fn H (ds ++ [])).vars [] := by
    intro sp _
    rw [List.append_nil, hspec, hvars]
    rfl
  refine ⟨ds, [], p ++ [], [], p, [], hW0, hresd _ _ _, hargs' _ hold, hvars' _ hold, World.keptBut_mono (fun x hx => ⟨hx, by simpa using hx⟩) (hb.frame (· ∈ p ++ [])), fun _ => ?_⟩
  refine ⟨hok, _, _, ([] ++ p) ++ [], ⟨[] ++ p, [], trodAll_append (hargs' _ (fun _ _ => rfl)) (hresd _ _ _), hvars' _ (fun _ _ => rfl), rfl, ?_, ?_⟩, ?_⟩
  · intro b off hp
    have hin : MemPlace.cell b off ∈ p ++ [] := by simpa using hp
    rw [hb.frozen (hlt _ hin)]
    exact hz b off hin
  · intro ha; cases ha
  · intro x hx _
    simpa using hx
end
end Go.Proofs.Ythpngeboknmllaa
