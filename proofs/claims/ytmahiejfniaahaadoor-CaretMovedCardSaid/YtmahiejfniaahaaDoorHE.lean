/- Texts put together: Mk, OrdA, MkM. -/
import Derived.Test.YtmahiejfniaahaaDoorGR
import Derived.Test.YtmahiejfniaahaaDoorGN
import Derived.Test.YtmahiejfniaahaaDoorGA
import Derived.Test.YtmahiejfniaahaaDoorGF
/- ref28.At, List, Mark: boxes that a law makes. -/
set_option linter.unusedVariables false
set_option linter.unusedSimpArgs false
set_option maxRecDepth 100000
namespace Go.Proofs.YtmahiejfniaahaaDoor
open Go.RowKit

theorem boxInfo : (Tryd.prog.info? 28).map (fun i => (i.zero, i.size, i.bytes)) = some (some (.agg #[.int .i64 0, .string ⟨#[]⟩, .int .i64 0, .int .i64 0, .int .i64 0, .int .i64 0, .int .i64 0, .int .i64 0, .slice none 0 0, .int .i64 0, .slice none 0 0]), 11, 128) := by kernel_rfl
theorem boxInfoE : InfoE 28 (.agg #[.int .i64 0, .string ⟨#[]⟩, .int .i64 0, .int .i64 0, .int .i64 0, .int .i64 0, .int .i64 0, .int .i64 0, .slice none 0 0, .int .i64 0, .slice none 0 0]) 11 128 := by
  have h := boxInfo
  rw [Option.map_eq_some_iff] at h
  obtain ⟨i, h1, h2⟩ := h
  simp only [Prod.mk.injEq] at h2
  exact ⟨i, h1, h2.1, h2.2.1, h2.2.2⟩

set_option maxHeartbeats 1000000 in
theorem at28_any (k : Int) (s : ByteArray) (z bw bh bd bx by_ of_ x y : Int) (Ak As : Option Addr) (nk ck ns cs : Nat) (w : World) :
    Calls Tryd.prog 10 #[.agg #[.int .i64 k, .string s, .int .i64 z, .int .i64 bw, .int .i64 bh, .int .i64 bd, .int .i64 bx, .int .i64 by_, .slice Ak nk ck, .int .i64 of_, .slice As ns cs], .int .i64 x, .int .i64 y] w fun e w' => e = .returned (.agg #[.int .i64 k, .string s, .int .i64 z, .int .i64 bw, .int .i64 bh, .int .i64 bd, .int .i64 x, .int .i64 y, .slice Ak nk ck, .int .i64 of_, .slice As ns cs]) ∧ Below w.heap.size w w' := by
  go_enter Tryd.func10, Tryd.ntmps10
  go_wp2_with fail
  refine bodyPost_ret (v := .agg #[.int .i64 k, .string s, .int .i64 z, .int .i64 bw, .int .i64 bh, .int .i64 bd, .int .i64 x, .int .i64 y, .slice Ak nk ck, .int .i64 of_, .slice As ns cs]) (by simp [results, Tryd.results10, go_sem]) rfl ⟨rfl, bAl (bNew _ _) _⟩

def ListRes (w : World) (a b c : Int) (ks : List Bx) (S : Nat → Prop) (e : Ending) (w' : World) : Prop :=
  Below w.heap.size w w' ∧ ∃ v, e = .returned (.agg #[.int .i64 3, .string ⟨#[]⟩, .int .i64 0, .int .i64 a, .int .i64 b, .int .i64 c, .int .i64 0, .int .i64 0, v, .int .i64 0, .slice none 0 0]) ∧ BoxesS w' (fun k => S k ∨ (w.heap.size ≤ k ∧ k < w'.heap.size)) ks v
set_option maxHeartbeats 8000000 in
theorem list28_any (a b c : Int) (ks : List Bx) (A : Option Addr) (n cap : Nat) (S S' : Nat → Prop) (cs : List Value) (w : World) (hn : n = ks.length) (hl : ks.length ≤ 1000000) (hS : ∀ k, S k → k < w.heap.size) (hS' : ∀ k, S' k → k < w.heap.size) (hrd : Reads w S' A cs) (hls : ListR boxE w S ks cs) :
    Calls Tryd.prog 9 #[.int .i64 a, .int .i64 b, .int .i64 c, .slice A n cap] w (ListRes w a b c ks S) := by
  obtain ⟨W0, hW0⟩ : ∃ W0, (w.alloc (.cells #[.int .i64 0, .string ⟨#[]⟩, .int .i64 0, .int .i64 0, .int .i64 0, .int .i64 0, .int .i64 0, .int .i64 0, .slice none 0 0, .int .i64 0, .slice none 0 0] 28)).alloc (.cells #[] 28) = W0 := ⟨_, rfl⟩
  have hb0 : Below w.heap.size w W0 := by rw [← hW0]; exact bAl (bNew _ _) _
  have hg : W0.heap[w.heap.size + 1]? = some (.cells #[] 28) := by rw [← hW0]; exact heapNew _ _ _ (by simp)
  have hz0 : W0.heap.size = w.heap.size + 2 := by rw [← hW0]; simp
  have hr0 : BoxL W0 w.heap.size 0 [.int .i64 0, .string ⟨#[]⟩, .int .i64 0, .int .i64 0, .int .i64 0, .int .i64 0, .int .i64 0, .int .i64 0, .slice none 0 0, .int .i64 0, .slice none 0 0] ∧ FreeB W0 w.heap.size := by rw [← hW0]; exact ⟨(BoxL.new _ _ _ _ rfl _ rfl).below (bNew _ _) (by simp), (FreeB.new _ _ _ _ rfl).below (bNew _ _) (by simp)⟩
  have HO := hid (OwnO.empty (E := boxE) (b := w.heap.size + 1) S hg (Nat.le_refl _))
  have HRD := hid (And.intro (hrd.keep (S' := S') (fun p hp => hb0.cell (hS' _ hp)) (fun _ h => h)) (hls.keep (S' := S) (fun p hp => hb0.cell (hS _ hp)) (fun _ h => h)))
  have HN := hid hn
  have HSS := hid (show ∀ k, S k → k < w.heap.size + 1 from fun k hk => Nat.lt_succ_of_lt (hS k hk))
  have HR0 := hid hr0
  have HB0 := hid hb0
  have HS := hid hS
  have HZ := hid hz0
  clear hrd hls hn hS hS' hb0 hg hr0 hz0
  go_enter Tryd.func9, Tryd.ntmps9
  go_wp2_with (at_builtin; (try rw [hW0]); clear hW0; refine app_O (TS := 25) Tryd.underlying25 boxInfoE rfl (by decide) HSS.out rfl (.tmp 12) (.tmp 13) rfl rfl HO.out _ _ _ rfl S' cs HRD.out.1 HRD.out.2 HN.out (by simp; omega) (by rw [HZ.out]; omega) ?_; intro v1 w1 ho1 hb1; rw [List.nil_append] at ho1; have HO1 := hid ho1; have HB1 := hid hb1; have hrr := HR0.out.1.below hb1 (Nat.lt_succ_self _); have hff := HR0.out.2.below hb1 (Nat.lt_succ_self _); obtain ⟨A1, c1, hv1⟩ := (ho1.rows (fun _ => True) (fun _ _ => trivial) (fun _ _ _ => trivial)).form; subst hv1; have r0 := hrr 0 _ rfl; have r1 := hrr 1 _ rfl; have r2 := hrr 2 _ rfl; have r3 := hrr 3 _ rfl; have r4 := hrr 4 _ rfl; have r5 := hrr 5 _ rfl; have r6 := hrr 6 _ rfl; have r7 := hrr 7 _ rfl; have r8 := hrr 8 _ rfl; have r9 := hrr 9 _ rfl; have r10 := hrr 10 _ rfl; have f0 := hff 0; have f1 := hff 1; have f2 := hff 2; have f3 := hff 3; have f4 := hff 4; have f5 := hff 5; have f6 := hff 6; have f7 := hff 7; have f8 := hff 8; have f9 := hff 9; have f10 := hff 10; simp only [Nat.zero_add] at r0 r1 r2 r3 r4 r5 r6 r7 r8 r9 r10; have HZ1 := hid hb1.size; clear ho1 hb1 hrr hff)
  generalize hW : ((((((((((w1.setCell _ (.int .i64 3)).setCell _ (.string ⟨#[]⟩)).setCell _ (.int .i64 0)).setCell _ (.int .i64 a)).setCell _ (.int .i64 b)).setCell _ (.int .i64 c)).setCell _ (.int .i64 0)).setCell _ (.int .i64 0)).setCell _ (.slice A1 ks.length c1)).setCell _ (.int .i64 0)).setCell _ (.slice none 0 0) = WE
  have hs := setL [.int .i64 3, .string ⟨#[]⟩, .int .i64 0, .int .i64 a, .int .i64 b, .int .i64 c, .int .i64 0, .int .i64 0, .slice A1 ks.length c1, .int .i64 0, .slice none 0 0] w1 w.heap.size 0 (fun j hj => (HR0.out.1.below HB1.out (Nat.lt_succ_self _)).has j (by simpa using hj))
  rw [show setCells w1 w.heap.size 0 [.int .i64 3, .string ⟨#[]⟩, .int .i64 0, .int .i64 a, .int .i64 b, .int .i64 c, .int .i64 0, .int .i64 0, .slice A1 ks.length c1, .int .i64 0, .slice none 0 0] = WE from hW] at hs
  have hz := hs.at_
  have z0 := hz 0 _ rfl
  have z1 := hz 1 _ rfl
  have z2 := hz 2 _ rfl
  have z3 := hz 3 _ rfl
  have z4 := hz 4 _ rfl
  have z5 := hz 5 _ rfl
  have z6 := hz 6 _ rfl
  have z7 := hz 7 _ rfl
  have z8 := hz 8 _ rfl
  have z9 := hz 9 _ rfl
  have z10 := hz 10 _ rfl
  simp only [Nat.zero_add] at z0 z1 z2 z3 z4 z5 z6 z7 z8 z9 z10
  have hbe : Below w.heap.size w1 WE := hs.below _ _ (Nat.le_refl _) (Below.refl _ _)
  have HBE : Hid (Below w.heap.size w WE) := (HB0.out.trans (HB1.out.mono (Nat.le_succ _) |> fun h => h)).trans hbe
  have HOT := hid hs.other
  have HSZ := hid hs.size
  clear hW hs hz hbe
  refine bodyPost_ret (v := .agg #[.int .i64 3, .string ⟨#[]⟩, .int .i64 0, .int .i64 a, .int .i64 b, .int .i64 c, .int .i64 0, .int .i64 0, .slice A1 ks.length c1, .int .i64 0, .slice none 0 0]) (by simp [results, Tryd.results9, go_sem, z0, z1, z2, z3, z4, z5, z6, z7, z8, z9, z10]) rfl ?_
  refine ⟨HBE.out, _, rfl, ?_⟩
  have h := HO1.out
  have hr := h.rows (fun k => S k ∨ (w.heap.size + 1 ≤ k ∧ k < w1.heap.size)) (fun k hk => .inl hk) (fun k h1 h2 => .inr ⟨h1, h2⟩)
  refine hr.keep (fun p hp => HOT.out p ?_) (fun k hk => ?_)
  · rcases hp with hp | hp
    · exact Nat.ne_of_lt (HS.out _ hp)
    · omega
  · rcases hk with hk | hk
    · exact .inl hk
    · exact .inr ⟨by omega, by rw [HSZ.out]; exact hk.2⟩
end Go.Proofs.YtmahiejfniaahaaDoor
/- Objects in blocks, through allocations and draws: words for regions whose allocations come in any order. -/
set_option linter.unusedVariables false
set_option linter.unusedSimpArgs false
set_option maxRecDepth 100000
namespace Go.Proofs.YtmahiejfniaahaaDoor
open Go.RowKit

def HasObj (W : World) (g : Nat) (o : Obj) : Prop := W.heap[g]? = some o
theorem HasObj.lt {W : World} {g : Nat} {o : Obj} (h : HasObj W g o) : g < W.heap.size := (Array.getElem?_eq_some_iff.1 h).1
theorem HasObj.new (W : World) (o : Obj) (g : Nat) (hg : g = W.heap.size) : HasObj (W.alloc o) g o := heapNew W o g hg
theorem HasObj.al {W : World} {g : Nat} {o : Obj} (o' : Obj) (h : HasObj W g o) : HasObj (W.alloc o') g o := (Below.heap_alloc _ _ _ h.lt).trans h
theorem HasObj.dr {W : World} {g : Nat} {o : Obj} (h : HasObj W g o) : HasObj W.drew g o := h
theorem HasObj.at0 (W : World) (o : Obj) : HasObj (W.alloc o) W.heap.size o := HasObj.new W o _ rfl
theorem HasObj.at1 (W : World) (p o : Obj) : HasObj ((W.alloc p).alloc o) (W.heap.size + 1) o := HasObj.new _ o _ (by simp)
theorem HasObj.at2 (W : World) (p p' o : Obj) : HasObj (((W.alloc p).alloc p').alloc o) (W.heap.size + 1 + 1) o := HasObj.new _ o _ (by simp)
theorem HasObj.below {W W' : World} {g : Nat} {o : Obj} (h : HasObj W g o) (hb : Below W.heap.size W W') : HasObj W' g o := (hb.block g h.lt).trans h
theorem HasObj.grown {W W' : World} {g : Nat} {o : Obj} {row : Option Nat} (h : HasObj W g o) (hg : W.grownBy W' row) (hn : some g ≠ row) : HasObj W' g o := (hg.block g h.lt hn).trans h
theorem HasObj.cells {W : World} {g : Nat} {arr : Array Value} {T : TypeId} (h : HasObj W g (.cells arr T)) : BoxL W g 0 arr.toList ∧ FreeB W g := by
  unfold HasObj at h
  refine ⟨fun j u hu => ?_, fun j => ?_⟩
  · rw [Nat.zero_add, cell_of_row W g j arr T (0, 0) h]
    simpa using hu
  · simp [World.frozen?, h]
theorem own_emp {X : World} {g b : Nat} (h : HasObj X g (.cells #[] 3)) (hb : b ≤ g) : Owns X b [] (.slice (some ⟨g, 0, none⟩) 0 0) :=
  ⟨⟨by simp, .inr ⟨g, 0, #[], rfl, hb, h, Nat.le_refl _, by simp [maxLen], by simp, by simp⟩⟩, by simp⟩
theorem one_int {X : World} {g : Nat} {x : Int} (h : HasObj X g (.cells #[.int .i64 x] 3)) (hx : In64 x) : IntsR X (fun k => k = g) [x] (.slice (some ⟨g, 0, none⟩) 1 1) := by
  have hc := h.cells.1
  refine ⟨_, _, [.int .i64 x], rfl, Nat.le_refl _, by simp [maxLen], fun _ => ⟨g, 0, rfl, rfl, fun j u hu => ?_⟩, listR_int.2 ⟨rfl, by simpa using hx⟩⟩
  exact hc j u (by simpa using hu)
theorem own_ne {X : World} {g b : Nat} {xs : List Int} {v : Value} {arr : Array Value} {T : TypeId} (h : Owns X b xs v) (ho : HasObj X g (.cells arr T)) (hT : T ≠ 3) : some g ≠ v.ownBlock := by
  intro e
  rcases h.1.2 with ⟨rfl, _⟩ | ⟨g', cap, cur, rfl, _, hh, _⟩
  · simp [Value.ownBlock] at e
  · simp [Value.ownBlock] at e
    subst e
    unfold HasObj at ho
    rw [ho] at hh
    injection hh with hh
    injection hh with _ h2 _
    exact hT h2
theorem ints_ne {X : World} {g b : Nat} {xs : List Int} {v : Value} {arr : Array Value} {T : TypeId} (h : Owns X b xs v) (ho : HasObj X g (.cells arr T)) (hT : T ≠ 3) : IntsR X (fun k => b ≤ k ∧ k < X.heap.size ∧ k ≠ g) xs v :=
  SliceR.of_own (E := intE) h.1 (fun k hk => ⟨(h.1.lt k hk).1, (h.1.lt k hk).2, fun e => own_ne h ho hT (by rw [← e]; exact hk.symm)⟩) (listR_int.2 ⟨rfl, h.2⟩)
end Go.Proofs.YtmahiejfniaahaaDoor
/- ref28.Mark. -/
set_option linter.unusedVariables false
set_option linter.unusedSimpArgs false
set_option maxRecDepth 100000
namespace Go.Proofs.YtmahiejfniaahaaDoor
open Go.RowKit

def MarkRes (w : World) (fs : Value → Value) (p : List Int) (e : Ending) (w' : World) : Prop := Below w.heap.size w w' ∧ ∃ v, e = .returned (fs v) ∧ IntsR w' (fun k => w.heap.size ≤ k ∧ k < w'.heap.size) p v
set_option maxHeartbeats 8000000 in
theorem mark28_any (k : Int) (s : ByteArray) (z bw bh bd bx by_ of_ q : Int) (Ak As Ap : Option Addr) (nk ck ns cs cp : Nat) (p : List Int) (w : World) (hp : IntsR w (Lt w.heap.size) p (.slice Ap p.length cp)) (hl : p.length ≤ 1000000) :
    Calls Tryd.prog 31 #[.agg #[.int .i64 k, .string s, .int .i64 z, .int .i64 bw, .int .i64 bh, .int .i64 bd, .int .i64 bx, .int .i64 by_, .slice Ak nk ck, .int .i64 of_, .slice As ns cs], .int .i64 q, .slice Ap p.length cp] w (MarkRes w (fun v => .agg #[.int .i64 k, .string s, .int .i64 z, .int .i64 bw, .int .i64 bh, .int .i64 bd, .int .i64 bx, .int .i64 by_, .slice Ak nk ck, .int .i64 q, v]) p) := by
  obtain ⟨W0, hW0⟩ : ∃ W0, ((w.alloc (.cells #[.int .i64 k, .string s, .int .i64 z, .int .i64 bw, .int .i64 bh, .int .i64 bd, .int .i64 bx, .int .i64 by_, .slice Ak nk ck, .int .i64 of_, .slice As ns cs] 28)).alloc (.cells #[.int .i64 0, .string ⟨#[]⟩, .int .i64 0, .int .i64 0, .int .i64 0, .int .i64 0, .int .i64 0, .int .i64 0, .slice none 0 0, .int .i64 0, .slice none 0 0] 28)).alloc (.cells #[] 3) = W0 := ⟨_, rfl⟩
  have hb0 : Below w.heap.size w W0 := by rw [← hW0]; exact bAl (bAl (bNew _ _) _) _
  have hz0 : W0.heap.size = w.heap.size + 3 := by rw [← hW0]; simp
  have hg : HasObj W0 (w.heap.size + 1 + 1) (.cells #[] 3) := by rw [← hW0]; exact HasObj.new _ _ _ (by simp)
  have hr0 : (BoxL W0 w.heap.size 0 [.int .i64 k, .string s, .int .i64 z, .int .i64 bw, .int .i64 bh, .int .i64 bd, .int .i64 bx, .int .i64 by_, .slice Ak nk ck, .int .i64 of_, .slice As ns cs] ∧ FreeB W0 w.heap.size) ∧ BoxL W0 (w.heap.size + 1) 0 [.int .i64 0, .string ⟨#[]⟩, .int .i64 0, .int .i64 0, .int .i64 0, .int .i64 0, .int .i64 0, .int .i64 0, .slice none 0 0, .int .i64 0, .slice none 0 0] ∧ FreeB W0 (w.heap.size + 1) := by
    have h1 := (BoxL.new w #[.int .i64 k, .string s, .int .i64 z, .int .i64 bw, .int .i64 bh, .int .i64 bd, .int .i64 bx, .int .i64 by_, .slice Ak nk ck, .int .i64 of_, .slice As ns cs] 28 _ rfl _ rfl).below (bNew _ (.cells #[.int .i64 0, .string ⟨#[]⟩, .int .i64 0, .int .i64 0, .int .i64 0, .int .i64 0, .int .i64 0, .int .i64 0, .slice none 0 0, .int .i64 0, .slice none 0 0] 28)) (by simp)
    have h2 := (FreeB.new w #[.int .i64 k, .string s, .int .i64 z, .int .i64 bw, .int .i64 bh, .int .i64 bd, .int .i64 bx, .int .i64 by_, .slice Ak nk ck, .int .i64 of_, .slice As ns cs] 28 _ rfl).below (bNew _ (.cells #[.int .i64 0, .string ⟨#[]⟩, .int .i64 0, .int .i64 0, .int .i64 0, .int .i64 0, .int .i64 0, .int .i64 0, .slice none 0 0, .int .i64 0, .slice none 0 0] 28)) (by simp)
    rw [← hW0]
    exact ⟨⟨h1.below (bNew _ _) (by simp; omega), h2.below (bNew _ _) (by simp; omega)⟩, (BoxL.new _ _ _ (w.heap.size + 1) (by simp) _ rfl).below (bNew _ _) (by simp), (FreeB.new _ _ _ (w.heap.size + 1) (by simp)).below (bNew _ _) (by simp)⟩
  have HO := hid (own_emp hg (Nat.le_refl _))
  have HP := hid (hp.keep (S' := Lt w.heap.size) (fun p hp => hb0.cell hp) (fun _ h => h))
  have HR0 := hid hr0
  have HB0 := hid hb0
  have HZ := hid hz0
  clear hp hb0 hg hr0 hz0
  go_enter Tryd.func31, Tryd.ntmps31
  go_wp2_with (at_builtin; (try rw [hW0]); clear hW0; refine app_ints rfl (.tmp 8) (.tmp 9) rfl (w.heap.size + 1 + 1) _ [] p rfl HO.out (Lt w.heap.size) _ _ _ rfl HP.out (by simp; omega) (by rw [HZ.out]; omega) ?_; intro v1 w1 ho1 hb1 _; rw [List.nil_append] at ho1; have HO1 := hid ho1; have HB1 := hid hb1; have hrr := HR0.out.1.1.below hb1 (by omega); have hff := HR0.out.1.2.below hb1 (by omega); have hrs := HR0.out.2.1.below hb1 (by omega); have hfs := HR0.out.2.2.below hb1 (by omega); obtain ⟨A1, c1, hv1⟩ := (ho1.ints (S := fun _ => True) (fun _ _ _ => trivial)).form; subst hv1; have r0 := hrr 0 _ rfl; have r1 := hrr 1 _ rfl; have r2 := hrr 2 _ rfl; have r3 := hrr 3 _ rfl; have r4 := hrr 4 _ rfl; have r5 := hrr 5 _ rfl; have r6 := hrr 6 _ rfl; have r7 := hrr 7 _ rfl; have r8 := hrr 8 _ rfl; have r9 := hrr 9 _ rfl; have r10 := hrr 10 _ rfl; have t0 := hrs 0 _ rfl; have t1 := hrs 1 _ rfl; have t2 := hrs 2 _ rfl; have t3 := hrs 3 _ rfl; have t4 := hrs 4 _ rfl; have t5 := hrs 5 _ rfl; have t6 := hrs 6 _ rfl; have t7 := hrs 7 _ rfl; have t8 := hrs 8 _ rfl; have t9 := hrs 9 _ rfl; have t10 := hrs 10 _ rfl; have f0 := hff 0; have f1 := hff 1; have f2 := hff 2; have f3 := hff 3; have f4 := hff 4; have f5 := hff 5; have f6 := hff 6; have f7 := hff 7; have f8 := hff 8; have f9 := hff 9; have f10 := hff 10; have g0 := hfs 0; have g1 := hfs 1; have g2 := hfs 2; have g3 := hfs 3; have g4 := hfs 4; have g5 := hfs 5; have g6 := hfs 6; have g7 := hfs 7; have g8 := hfs 8; have g9 := hfs 9; have g10 := hfs 10; simp only [Nat.zero_add] at r0 r1 r2 r3 r4 r5 r6 r7 r8 r9 r10 t0 t1 t2 t3 t4 t5 t6 t7 t8 t9 t10; have HZ1 := hid hb1.size; have ne1 : ¬ (w.heap.size + 1 = w.heap.size) := Nat.succ_ne_self _; have ne2 : ¬ (w.heap.size = w.heap.size + 1) := fun h => Nat.succ_ne_self _ h.symm; clear ho1 hb1 hrr hff hrs hfs)
  generalize hM : (w1.setCell _ (.int .i64 q)).setCell _ (.slice A1 p.length c1) = WM
  generalize hW : ((((((((((WM.setCell _ (.int .i64 k)).setCell _ (.string s)).setCell _ (.int .i64 z)).setCell _ (.int .i64 bw)).setCell _ (.int .i64 bh)).setCell _ (.int .i64 bd)).setCell _ (.int .i64 bx)).setCell _ (.int .i64 by_)).setCell _ (.slice Ak nk ck)).setCell _ (.int .i64 q)).setCell _ (.slice A1 p.length c1) = WE
  have hs1 := setL [.int .i64 q, .slice A1 p.length c1] w1 w.heap.size 9 (fun j hj => by
    match j, hj with
    | 0, _ => exact ⟨_, (HR0.out.1.1.below HB1.out (Nat.lt_of_lt_of_le (Nat.lt_succ_self _) (Nat.le_succ _))) 9 _ rfl⟩
    | 1, _ => exact ⟨_, (HR0.out.1.1.below HB1.out (Nat.lt_of_lt_of_le (Nat.lt_succ_self _) (Nat.le_succ _))) 10 _ rfl⟩)
  rw [show setCells w1 w.heap.size 9 [.int .i64 q, .slice A1 p.length c1] = WM from hM] at hs1
  have hs2 := setL [.int .i64 k, .string s, .int .i64 z, .int .i64 bw, .int .i64 bh, .int .i64 bd, .int .i64 bx, .int .i64 by_, .slice Ak nk ck, .int .i64 q, .slice A1 p.length c1] WM (w.heap.size + 1) 0 (fun j hj => by
    obtain ⟨u, hu⟩ := (HR0.out.2.1.below HB1.out (Nat.lt_succ_self _)).has j (by simpa using hj)
    exact ⟨u, (hs1.other _ (Nat.succ_ne_self _)).trans hu⟩)
  rw [show setCells WM (w.heap.size + 1) 0 [.int .i64 k, .string s, .int .i64 z, .int .i64 bw, .int .i64 bh, .int .i64 bd, .int .i64 bx, .int .i64 by_, .slice Ak nk ck, .int .i64 q, .slice A1 p.length c1] = WE from hW] at hs2
  have hz := hs2.at_
  have z0 := hz 0 _ rfl
  have z1 := hz 1 _ rfl
  have z2 := hz 2 _ rfl
  have z3 := hz 3 _ rfl
  have z4 := hz 4 _ rfl
  have z5 := hz 5 _ rfl
  have z6 := hz 6 _ rfl
  have z7 := hz 7 _ rfl
  have z8 := hz 8 _ rfl
  have z9 := hz 9 _ rfl
  have z10 := hz 10 _ rfl
  simp only [Nat.zero_add] at z0 z1 z2 z3 z4 z5 z6 z7 z8 z9 z10
  have hbe : Below w.heap.size w1 WE := hs2.below _ _ (Nat.le_succ _) (hs1.below _ _ (Nat.le_refl _) (Below.refl _ _))
  have HBE : Hid (Below w.heap.size w WE) := (HB0.out.trans (HB1.out.mono (Nat.le_of_lt (Nat.lt_of_lt_of_le (Nat.lt_succ_self _) (Nat.le_succ _))))).trans hbe
  have HI : Hid (IntsR WE (fun k => w.heap.size ≤ k ∧ k < WE.heap.size) p (.slice A1 p.length c1)) := (HO1.out.ints (S := fun k => w.heap.size + 1 + 1 ≤ k ∧ k < w1.heap.size) (fun k h1 h2 => ⟨h1, h2⟩)).keep (fun a ha => (hs2.other a (Nat.ne_of_gt ha.1)).trans (hs1.other a (Nat.ne_of_gt (Nat.lt_of_lt_of_le (Nat.lt_succ_self _) (Nat.le_of_lt ha.1))))) (fun k hk => ⟨Nat.le_trans (Nat.le_succ _) (Nat.le_trans (Nat.le_succ _) hk.1), by rw [hs2.size, hs1.size]; exact hk.2⟩)
  clear hM hW hs1 hs2 hz hbe
  refine bodyPost_ret (v := .agg #[.int .i64 k, .string s, .int .i64 z, .int .i64 bw, .int .i64 bh, .int .i64 bd, .int .i64 bx, .int .i64 by_, .slice Ak nk ck, .int .i64 q, .slice A1 p.length c1]) (by simp [results, Tryd.results31, go_sem, z0, z1, z2, z3, z4, z5, z6, z7, z8, z9, z10]) rfl ?_
  exact ⟨HBE.out, _, rfl, HI.out⟩
end Go.Proofs.YtmahiejfniaahaaDoor
