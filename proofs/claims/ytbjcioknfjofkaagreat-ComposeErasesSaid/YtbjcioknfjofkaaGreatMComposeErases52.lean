/- Texts put together. -/
import Derived.Test.YtbjcioknfjofkaaGreatMComposeErases6
import Derived.Test.YtbjcioknfjofkaaGreatMComposeErases34
import Derived.Test.YtbjcioknfjofkaaGreatMComposeErases48
import Derived.Test.YtbjcioknfjofkaaGreatMComposeErases51
set_option linter.unusedVariables false
set_option linter.unusedSimpArgs false
set_option maxRecDepth 100000
namespace Go.Proofs.YtbjcioknfjofkaaGreat
open Go.RowKit
def fr14 : Tree := .mk 5 ⟨#[]⟩ 0 [rowT [], rowT []]
def awT14 : Tree := rowT [fr14]
theorem tx14 (k : Int) (h : k = 1 ∨ k = 5) : textS k ⟨#[]⟩ = true := by
  unfold textS
  rw [if_neg (by omega), if_neg (by omega), if_neg (by omega), if_neg (by omega), if_neg (by omega), Lib.toList_data]; rfl
theorem awT14_form : formS awT14 = true := by
  simp only [awT14, fr14, rowT, formS, formsS, tx14 1 (.inl rfl), tx14 5 (.inr rfl), List.length_cons, List.length_nil]
  decide +kernel
theorem awT14_valid : validS awT14 = true := by
  unfold validS
  rw [awT14_form]
  decide +kernel
theorem awT14_in : posIn awT14 ([] ++ [0, 1] ++ [0]) = true := by decide +kernel
theorem awT14_ok : NodeOk awT14 := ⟨by simp [awT14, rowT, Tree.kind, In64], by simp [awT14, rowT, Tree.cols, In64], Nat.zero_le _⟩
theorem awT14_erase : eraseS awT14 [0, 1, 0] [] true = (⟨[unwS ⟨[], 0, 1, fr14⟩], [0, 1, 0], [], [0], []⟩, 0) := by
  have hof := of_self (q := [] ++ [0, 1]) awT14_valid awT14_in
  have he : eraseS awT14 ([] ++ [0, 1] ++ [0]) [] true = eraseT awT14 ([] ++ [0, 1] ++ [0]) [] true := eraseS_not (by rw [hof]) (by rw [hof]; simp)
  have hT := er_T (q := [] ++ [0, 1]) (o := 0) awT14 true (its := []) awT14_valid (by decide +kernel) rfl
  show eraseS awT14 ([] ++ [0, 1] ++ [0]) [] true = _
  rw [he, hT, if_neg (by simp), aro_of awT14_valid awT14_in]
  have hk : kidS (findS awT14 []).1 0 = fr14 := rfl
  simp only [hk]
  rw [if_pos (by decide +kernel)]
  have hap := unw_apply (t := awT14) (q := []) (its := [fr14]) (a := 0) (s := 1) awT14_valid (by decide +kernel) rfl (by simp) (by decide +kernel) rfl
  exact (done_one (p := [] ++ [0, 1] ++ [0]) (mk := []) (pos := [] ++ [0]) awT14_valid hap).1
theorem aw14_q (A : Option Addr) (n c : Nat) (w : World) : Calls Tryz.prog 32 #[.slice A n c] w fun e w' => e = .returned (.agg #[.int .i64 1, .string ⟨#[]⟩, .int .i64 0, .slice A n c]) ∧ w' = w.alloc (.cells #[.int .i64 1, .string ⟨#[]⟩, .int .i64 0, .slice A n c] 24) := by
  go_enter Tryz.func32, Tryz.ntmps32
  go_wp2
  exact bodyPost_ret (v := .agg #[.int .i64 1, .string ⟨#[]⟩, .int .i64 0, .slice A n c]) (by simp [results, Tryz.results32, go_sem]) rfl ⟨rfl, rfl⟩
theorem tree_cells14 (W : World) (S : Nat → Prop) (k c : Int) (s : ByteArray) (ts : List Tree) (v : Value) (hk : In64 k) (hc : In64 c) (hs : s.size ≤ maxLen) (h : SliceR treeE W S ts v) : treeE.R W S (.mk k s c ts) [.int .i64 k, .string s, .int .i64 c, v] :=
  treeR_mk.2 ⟨v, rfl, hk, hc, hs, h⟩
theorem row_lit14 {α : Type} {E : Enc α} (W : World) (ts : List α) (arr : Array Value) (cs : List Value) (harr : arr = cs.toArray) (h : ListR E W (Lt W.heap.size) ts cs) (hl : ts.length ≤ maxLen) (n g : Nat) (hn : n = ts.length) (hg : g = W.heap.size) (e : TypeId) :
    SliceR E (W.alloc (.cells arr e)) (Lt (W.alloc (.cells arr e)).heap.size) ts (.slice (some ⟨g, 0, none⟩) n n) := by
  subst harr hn hg
  have hb : Below W.heap.size W (W.alloc (.cells cs.toArray e)) := blA _ _
  refine ⟨_, _, cs, rfl, Nat.le_refl _, hl, fun _ => ⟨W.heap.size, 0, rfl, by unfold Lt; simp, fun j x hx => ?_⟩, h.keep (Same.of_below hb (Nat.le_refl _)) (Lt.mono hb.size)⟩
  rw [Nat.zero_add, World.cell?_alloc_new]
  simpa using hx
set_option maxHeartbeats 4000000 in
theorem awake14_any (w : World) : Calls Tryz.prog 12 #[] w fun e w' => e = .returned (.bool true) ∧ Below w.heap.size w w' := by
  obtain ⟨V, hV⟩ : ∃ V, (w.alloc (.cells #[.int .i64 1, .string ⟨#[]⟩, .int .i64 0, .slice none 0 0] 24)).alloc (.cells #[.int .i64 1, .string ⟨#[]⟩, .int .i64 0, .slice none 0 0] 24) = V := ⟨_, rfl⟩
  obtain ⟨V1, hV1⟩ : ∃ V1, V.alloc (.cells #[.int .i64 1, .string ⟨#[]⟩, .int .i64 0, .slice none 0 0, .int .i64 1, .string ⟨#[]⟩, .int .i64 0, .slice none 0 0] 24) = V1 := ⟨_, rfl⟩
  obtain ⟨V2, hV2⟩ : ∃ V2, V1.alloc (.cells #[.int .i64 5, .string ⟨#[]⟩, .int .i64 0, .slice (some ⟨V.heap.size, 0, none⟩) 2 2] 24) = V2 := ⟨_, rfl⟩
  obtain ⟨V3, hV3⟩ : ∃ V3, V2.alloc (.cells #[.int .i64 1, .string ⟨#[]⟩, .int .i64 0, .slice (some ⟨V1.heap.size, 0, none⟩) 1 1] 24) = V3 := ⟨_, rfl⟩
  obtain ⟨V4, hV4⟩ : ∃ V4, V3.alloc (.cells #[.int .i64 1, .string ⟨#[]⟩, .int .i64 0, .slice (some ⟨V1.heap.size, 0, none⟩) 1 1] 24) = V4 := ⟨_, rfl⟩
  obtain ⟨V5, hV5⟩ : ∃ V5, V4.alloc (.cells #[.int .i64 0, .int .i64 1, .int .i64 0] 3) = V5 := ⟨_, rfl⟩
  have b0 : Below w.heap.size w V := by rw [← hV]; exact blAlloc (blA _ _) _
  have b1 : Below V.heap.size V V1 := by rw [← hV1]; exact blA _ _
  have b2 : Below V1.heap.size V1 V2 := by rw [← hV2]; exact blA _ _
  have b3 : Below V2.heap.size V2 V3 := by rw [← hV3]; exact blA _ _
  have b4 : Below V3.heap.size V3 V4 := by rw [← hV4]; exact blA _ _
  have b5 : Below V4.heap.size V4 V5 := by rw [← hV5]; exact blA _ _
  have hz : ∀ (W : World) (S : Nat → Prop), treeE.R W S (rowT []) [.int .i64 1, .string ⟨#[]⟩, .int .i64 0, .slice none 0 0] := fun W S => tree_cells14 W S 1 0 ⟨#[]⟩ [] _ (by simp [In64]) (by simp [In64]) (Nat.zero_le _) (SliceR.nil_ 0 (Nat.zero_le _) none)
  have r1 : SliceR treeE V1 (Lt V1.heap.size) [rowT [], rowT []] (.slice (some ⟨V.heap.size, 0, none⟩) 2 2) := by
    rw [← hV1]
    exact row_lit14 V _ _ _ rfl (ListR.append (ListR.single (E := treeE) (hz V _)) (ListR.single (E := treeE) (hz V _))) (by simp [maxLen]) _ _ rfl rfl _
  have r2 : SliceR treeE V2 (Lt V2.heap.size) [fr14] (.slice (some ⟨V1.heap.size, 0, none⟩) 1 1) := by
    rw [← hV2]
    exact row_lit14 V1 _ _ _ rfl (ListR.single (E := treeE) (tree_cells14 V1 _ 5 0 ⟨#[]⟩ _ _ (by simp [In64]) (by simp [In64]) (Nat.zero_le _) r1)) (by simp [maxLen]) _ _ rfl rfl _
  have r5 : SliceR treeE V5 (Lt V5.heap.size) awT14.kids (.slice (some ⟨V1.heap.size, 0, none⟩) 1 1) := ((r2.below b3 b3.size).below b4 b4.size).below b5 b5.size
  have n4 : HasObj V4 V3.heap.size (.cells #[.int .i64 1, .string ⟨#[]⟩, .int .i64 0, .slice (some ⟨V1.heap.size, 0, none⟩) 1 1] 24) := by rw [← hV4]; exact HasObj.at0 _ _
  have p5 : IntsR V5 (Lt V5.heap.size) [0, 1, 0] (.slice (some ⟨V4.heap.size, 0, none⟩) 3 3) := by rw [← hV5]; exact row_lt V4 [0, 1, 0] 3 (by simp [In64]) (by simp [maxLen])
  have bb : Below w.heap.size w V5 := blCall (blCall (blCall (blCall (blCall b0 b1) b2) b3) b4) b5
  have CE : Hid (Calls Tryz.prog 15 #[.agg #[.int .i64 1, .string ⟨#[]⟩, .int .i64 0, .slice (some ⟨V1.heap.size, 0, none⟩) 1 1], .agg #[.slice (some ⟨V4.heap.size, 0, none⟩) 3 3, .slice none 0 0], .bool true] V5 (RecF V5 (⟨[unwS ⟨[], 0, 1, fr14⟩], [0, 1, 0], [], [0], []⟩, 0))) := by
    have h := cErase_any awT14 [0, 1, 0] [] (some ⟨V1.heap.size, 0, none⟩) (some ⟨V4.heap.size, 0, none⟩) none 1 3 0 true V5 r5 awT14_ok (by decide) p5 (SliceR.nil_ 0 (Nat.zero_le _) none) (by simp) (by simp)
    rw [awT14_erase] at h
    exact h
  have BB := hid bb
  have m0 := n4.cell 0
  have m1 := n4.cell 1
  have m2 := n4.cell 2
  have m3 := n4.cell 3
  simp only [List.getElem?_toArray, List.getElem?_cons_zero, List.getElem?_cons_succ] at m0 m1 m2 m3
  have HKD : Hid ((unwS ⟨[], 0, 1, fr14⟩).kind = 4) := rfl
  clear b0 b1 b2 b3 b4 b5 hz r1 r2 r5 n4 p5 bb
  go_enter Tryz.func12, Tryz.ntmps12
  go_wp2_with (first
    | (go_at_call 32; refine (aw14_q _ _ _ _).mono ?_; rintro e w9 ⟨rfl, rfl⟩)
    | fail)
  refine CE.out.mono ?_
  rintro e we ⟨Ao, co, Ap, cp, Am, cm, Aap, cap, Aam, cam, rfl, r1, _, _, r4, _, hbe⟩
  have HBE := hid (blCall BB.out hbe)
  obtain ⟨_, _, rso, hq, _, _, hrd, hls⟩ := r1
  cases hq
  obtain ⟨g, o, Ar, An, cr, cn, e9, hg, p0, _⟩ := ops_at hrd hls (k := 0) Nat.one_pos
  subst e9
  have p1 : we.cell? ⟨g, o, none⟩ = some (.int .i64 4) := p0
  have HR4 : Hid (IntsR we (Lt we.heap.size) [0] (.slice Aap 1 cap)) := hid (r4.keep (fun _ _ => rfl) (fun k hk => hk.2))
  have HP1 := hid p1
  clear hrd hls hg p0 p1 hV hV1 hV2 hV3 hV4 hV5 hbe m0 m1 m2 m3 r4 CE
  simp only [List.length_cons, List.length_nil, Nat.zero_add]
  go_upto_region 4 with fail
  generalize hX : World.alloc we _ = X
  have hbx : Below we.heap.size we X := by rw [← hX]; exact blA _ _
  have hRX : HasObj X we.heap.size (.cells #[.slice (some ⟨g, o, none⟩) 1 co, .slice Ap 3 cp, .slice Am 0 cm, .slice Aap 1 cap, .slice Aam 0 cam] 36) := by rw [← hX]; exact HasObj.at0 _ _
  have p1 : X.cell? ⟨g, o, none⟩ = some (.int .i64 4) := (hbx.cell (p := ⟨g, o, none⟩) (World.block_lt_of_cell? we _ HP1.out)).trans HP1.out
  have r0 := hRX.cell 0
  have r3 := hRX.cell 3
  simp only [List.getElem?_toArray, List.getElem?_cons_zero, List.getElem?_cons_succ] at r0 r3
  have HR4 := hid (HR4.out.below hbx hbx.size)
  have HBE := hid (blCall HBE.out hbx)
  clear hX hbx hRX HP1
  go_wp2_with fail
  refine (same_q [0] [0] _ _ _ (Lt X.heap.size) _ (HR4.out.below (B' := X.heap.size) (blA X _) (Nat.le_refl _)) (ints_lit _ [0] (by simp [In64]) (S := fun _ => True) trivial #[.int .i64 0] 1 rfl rfl (by simp [maxLen]) 3 _ rfl)).mono ?_
  rintro e w8 ⟨rfl, n8, rfl⟩
  rw [show decide (cmpS [0] [0] = 0) = true by decide]
  go_wp2_with fail
  go_ret
  exact ⟨rfl, below_draw (blAlloc HBE.out _) _⟩
end Go.Proofs.YtbjcioknfjofkaaGreat
set_option linter.unusedVariables false
set_option linter.unusedSimpArgs false
set_option maxRecDepth 100000
namespace Go.Proofs.YtbjcioknfjofkaaGreat
open Go.RowKit
def But2 (a b : Nat) (W : World) (k : Nat) : Prop := k < W.heap.size ∧ k ≠ a ∧ k ≠ b
theorem but2_lt {α : Type} {E : Enc α} {a b : Nat} {W W' : World} {xs : List α} {v : Value} (h : SliceR E W (But2 a b W) xs v) (hb : Below W.heap.size W W') : SliceR E W' (Lt W'.heap.size) xs v := h.keep (fun q hq => hb.cell hq.1) (fun k hk => Nat.lt_of_lt_of_le hk.1 hb.size)
theorem but2_bl {α : Type} {E : Enc α} {a b : Nat} {W W' : World} {xs : List α} {v : Value} (h : SliceR E W (But2 a b W) xs v) (hb : Below W.heap.size W W') : SliceR E W' (But2 a b W') xs v := h.keep (fun q hq => hb.cell hq.1) (fun k hk => ⟨Nat.lt_of_lt_of_le hk.1 hb.size, hk.2⟩)
def ErsR (back : Bool) (L gn gc : Nat) (w wr : World) (i : Value) : Prop :=
  ∃ (k : Nat) (t : Tree) (q : List Int) (o : Int) (A Ap Am : Option Addr) (cap cp cm : Nat), i = .int .i64 k ∧ k ≤ L ∧ HasObj wr gn (.cells #[.int .i64 t.kind, .string t.text, .int .i64 t.cols, .slice A t.kids.length cap] 24) ∧ HasObj wr gc (.cells #[.slice Ap (q ++ [o]).length cp, .slice Am 0 cm] 33) ∧
    SliceR treeE wr (But2 gn gc wr) t.kids (.slice A t.kids.length cap) ∧ IntsR wr (But2 gn gc wr) (q ++ [o]) (.slice Ap (q ++ [o]).length cp) ∧ IntsR wr (But2 gn gc wr) [] (.slice Am 0 cm) ∧ ErInv back t q o ∧ measS (sgnS back) t (q ++ [o]) + k < L ∧ Below w.heap.size w wr
set_option maxHeartbeats 16000000 in
theorem ers_walk (t : Tree) (back : Bool) (A : Option Addr) (cap : Nat) (w : World) (hv : TreesS w (Lt w.heap.size) t.kids (.slice A t.kids.length cap)) (hok : NodeOk t) :
    Calls Tryz.prog 3 #[.agg #[.int .i64 t.kind, .string t.text, .int .i64 t.cols, .slice A t.kids.length cap], .bool back] w fun e w' => e = .returned (.bool true) ∧ Below w.heap.size w w' := by
  have HF40 : Hid (∀ W, Below w.heap.size w W → Calls Tryz.prog 13 #[.agg #[.int .i64 t.kind, .string t.text, .int .i64 t.cols, .slice A t.kids.length cap], .int .i64 40] W fun e w' => e = .returned (.bool (fewS t 40)) ∧ Below W.heap.size W w') := fun W hW => few_any t W _ 40 (hv.below hW hW.size) (by omega) (by omega)
  obtain ⟨W0, hW0⟩ : ∃ W0, w.alloc (Obj.cells #[.int .i64 t.kind, .string t.text, .int .i64 t.cols, .slice A t.kids.length cap] 24) = W0 := ⟨_, rfl⟩
  have hb0 : Below w.heap.size w W0 := by rw [← hW0]; exact blA _ _
  have hn0 : HasObj W0 w.heap.size (.cells #[.int .i64 t.kind, .string t.text, .int .i64 t.cols, .slice A t.kids.length cap] 24) := by rw [← hW0]; exact HasObj.at0 _ _
  have KB : Hid (∀ W, Below W0.heap.size W0 W → HasObj W w.heap.size (.cells #[.int .i64 t.kind, .string t.text, .int .i64 t.cols, .slice A t.kids.length cap] 24) ∧ Below w.heap.size w W) := fun W hW => ⟨hn0.below hW, hb0.trans (hW.mono hb0.size)⟩
  have CW : Hid (∀ W, Below W0.heap.size W0 W → W.cell? ⟨w.heap.size, 0, none⟩ = some (.int .i64 t.kind) ∧ W.cell? ⟨w.heap.size, 1, none⟩ = some (.string t.text) ∧ W.cell? ⟨w.heap.size, 2, none⟩ = some (.int .i64 t.cols) ∧ W.cell? ⟨w.heap.size, 3, none⟩ = some (.slice A t.kids.length cap)) := fun W hW => by
    have h := (KB.out W hW).1
    exact ⟨h.cell 0, h.cell 1, h.cell 2, h.cell 3⟩
  cases hf : fewS t 40 with
  | false =>
    rw [hf] at HF40
    obtain ⟨tk, tx, tc, ts⟩ := t
    simp only [Tree.kind, Tree.text, Tree.cols, Tree.kids] at *
    clear hf hv hok hb0 hn0
    go_enter Tryz.func3, Tryz.ntmps3
    go_wp2_with fail
    refine (awake14_any _).mono ?_
    rintro e w1 ⟨rfl, hb1⟩
    obtain ⟨m0, m1, m2, m3⟩ := CW.out w1 hb1
    have HK1 := hid (KB.out w1 hb1).2
    clear hb1
    go_wp2_with fail
    refine (HF40.out _ HK1.out).mono ?_
    rintro e w2 ⟨rfl, hb2⟩
    have HK2 := hid (blCall HK1.out hb2)
    clear hb2
    go_wp2_with fail
    refine (awake14_any _).mono ?_
    rintro e w3 ⟨rfl, hb3⟩
    have HK3 := hid (blCall HK2.out hb3)
    clear hb3
    go_wp2_with fail
    go_ret
    exact ⟨rfl, HK3.out⟩
  | true =>
  rw [hf] at HF40
  have hct : countS t ≤ 900000 := by
    have := few_count hf
    omega
  have CL : Hid (∀ W, Below w.heap.size w W → Calls Tryz.prog 14 #[.agg #[.int .i64 t.kind, .string t.text, .int .i64 t.cols, .slice A t.kids.length cap]] W (AllRes W (validS t) (allS [] t))) := fun W hW => rAll_any t A cap W (hv.below hW hW.size) hok.2.2 hct
  cases hvt : validS t with
  | false =>
    rw [hvt] at CL
    obtain ⟨tk, tx, tc, ts⟩ := t
    simp only [Tree.kind, Tree.text, Tree.cols, Tree.kids] at *
    clear hf hv hok hb0 hn0 hct hvt
    go_enter Tryz.func3, Tryz.ntmps3
    go_wp2_with fail
    refine (awake14_any _).mono ?_
    rintro e w1 ⟨rfl, hb1⟩
    obtain ⟨m0, m1, m2, m3⟩ := CW.out w1 hb1
    have HK1 := hid (KB.out w1 hb1).2
    have HT1 := hid hb1
    clear hb1
    go_wp2_with fail
    refine (HF40.out _ HK1.out).mono ?_
    rintro e w2 ⟨rfl, hb2⟩
    have HT2 := hid (HT1.out.trans (hb2.mono HT1.out.size))
    have HK2 := hid (blCall HK1.out hb2)
    clear hb2 m0 m1 m2 m3
    obtain ⟨m0, m1, m2, m3⟩ := CW.out w2 HT2.out
    go_wp2_with fail
    refine (CL.out _ HK2.out).mono ?_
    rintro e w3 ⟨hb3, (⟨_, rfl⟩ | ⟨h, _⟩)⟩
    case inr => cases h
    have HK3 := hid (blCall HK2.out hb3)
    clear hb3 m0 m1 m2 m3
    go_wp2_with fail
    go_ret
    exact ⟨rfl, HK3.out⟩
  | true =>
  rw [hvt] at CL
  have CE : Hid (∀ (t : Tree) (p : List Int) (A Ap Am : Option Addr) (cap cp cm : Nat) (W : World), SliceR treeE W (Lt W.heap.size) t.kids (.slice A t.kids.length cap) → NodeOk t → validS t = true → IntsR W (Lt W.heap.size) p (.slice Ap p.length cp) → IntsR W (Lt W.heap.size) [] (.slice Am 0 cm) → p.length ≤ 90000 → Calls Tryz.prog 15 #[.agg #[.int .i64 t.kind, .string t.text, .int .i64 t.cols, .slice A t.kids.length cap], .agg #[.slice Ap p.length cp, .slice Am 0 cm], .bool back] W (RecF W (eraseS t p [] back))) := fun t p A Ap Am cap cp cm W h1 h2 h3 h4 h5 h6 => cErase_any t p [] A Ap Am cap cp cm back W h1 h2 (by have := (valid_count h3).1; omega) h4 h5 h6 (Nat.zero_le _)
  have CA : Hid (∀ (t : Tree) (ops : List OpD) (A Ao : Option Addr) (cap co : Nat) (W : World) (S : Nat → Prop), (∀ q, S q → q < W.heap.size) → SliceR treeE W S t.kids (.slice A t.kids.length cap) → NodeOk t → validS t = true → SliceR opE W S ops (.slice Ao ops.length co) → SmallO ops → Calls Tryz.prog 16 #[.agg #[.int .i64 t.kind, .string t.text, .int .i64 t.cols, .slice A t.kids.length cap], .slice Ao ops.length co] W (ApplyAllN S W (applyAllS t ops))) := fun t ops A Ao cap co W S h1 h2 h3 h4 h5 h6 => applyAllN_any t ops A Ao cap co W S h1 h2 h3 (by have := (valid_count h4).1; omega) h5 h6.1 h6.2
  have HST := hid (er_start back hvt hok)
  have HM0 : Hid (measS (sgnS back) t ([] ++ [if back then (t.kids.length : Int) else 0]) + 0 < (allS [] t).length) := meas_all HST.out.p
  have HL0 : Hid (0 < (allS [] t).length) := allS_pos t
  have HLF : Hid (∀ h : 0 < (allS [] t).length, (allS [] t)[0] = [0]) := fun h => allS_at_first t h
  have HLL : Hid (∀ h : (allS [] t).length - 1 < (allS [] t).length, (allS [] t)[(allS [] t).length - 1] = [(t.kids.length : Int)]) := fun h => allS_at_last t h
  have HLB : Hid ((allS [] t).length ≤ 10000000) := by have h1 := allS_le t hct; exact Nat.le_trans h1 (by decide)
  have HV := hid hv
  generalize allS [] t = L at *
  clear hf hv hb0 hn0 hct hvt hok
  have HTT : Hid (∃ x, x = t) := ⟨t, rfl⟩
  obtain ⟨tk, tx, tc, ts⟩ := t
  simp only [Tree.kind, Tree.text, Tree.cols, Tree.kids] at CL HF40 CW KB HV HLL HM0 HST hW0 ⊢
  go_enter Tryz.func3, Tryz.ntmps3
  go_wp2_with fail
  refine (awake14_any _).mono ?_
  rintro e w1 ⟨rfl, hb1⟩
  obtain ⟨m0, m1, m2, m3⟩ := CW.out w1 hb1
  have HK1 := hid (KB.out w1 hb1).2
  have HT1 := hid hb1
  clear hb1 hW0
  go_wp2_with fail
  refine (HF40.out _ HK1.out).mono ?_
  rintro e w2 ⟨rfl, hb2⟩
  have HT2 := hid (HT1.out.trans (hb2.mono HT1.out.size))
  have HK2 := hid (blCall HK1.out hb2)
  clear hb2 m0 m1 m2 m3
  obtain ⟨m0, m1, m2, m3⟩ := CW.out w2 HT2.out
  go_wp2_with fail
  refine (CL.out _ HK2.out).mono ?_
  rintro e w3 ⟨hb3, (⟨h, _⟩ | ⟨_, v3, rfl, hr3⟩)⟩
  case inl => cases h
  have HK3 := hid (blCall HK2.out hb3)
  have HT3 := hid (HT2.out.trans (hb3.mono HT2.out.size))
  have hw02 : w.heap.size < w2.heap.size := (KB.out w2 HT2.out).1.lt
  obtain ⟨A3, c3, rfl⟩ := hr3.rows.form
  obtain ⟨_, _, rs, hq, _, _, hrd, hls⟩ := hr3.rows
  cases hq
  have hrow : ∀ (k : Nat) (p : List Int) (hk : k < L.length), L[k] = p → ∃ g o A4 c4, A3 = some ⟨g, o, none⟩ ∧ w3.cell? ⟨g, o + k, none⟩ = some (.slice A4 p.length c4) ∧ IntsR w3 (fun k => w2.heap.size ≤ k ∧ k < w3.heap.size) p (.slice A4 p.length c4) := by
    rintro k p hk rfl
    obtain ⟨g, o, A4, c4, rs4, e, hg, q0, h5, h6, h7, h8⟩ := rows_at hrd hls hk
    exact ⟨g, o, A4, c4, e, q0, _, _, rs4, rfl, h5, h6, h7, h8⟩
  have hx1 : L.length - 1 < L.length := by have := HL0.out; omega
  obtain ⟨g, o, A4, c4, rfl, q0, hp0⟩ := hrow 0 [0] HL0.out (HLF.out HL0.out)
  obtain ⟨g', o', A5, c5, e9, q1, hp1⟩ := hrow (L.length - 1) [(ts.length : Int)] hx1 (HLL.out hx1)
  cases e9
  have HP0 : Hid (IntsR w3 (fun k => w2.heap.size ≤ k ∧ k < w3.heap.size) [0] (.slice A4 1 c4)) := hp0
  have HP1 : Hid (IntsR w3 (fun k => w2.heap.size ≤ k ∧ k < w3.heap.size) [(ts.length : Int)] (.slice A5 1 c5)) := hp1
  simp only [List.length_cons, List.length_nil, Nat.zero_add] at q0 q1
  clear hp0 hp1 hrow
  obtain ⟨n, hn⟩ : ∃ n, L.length = n + 1 := ⟨L.length - 1, by omega⟩
  rw [hn] at HM0 HLB q1
  simp only [Nat.add_sub_cancel, Nat.add_zero] at q0 q1
  obtain ⟨Ln, hLn⟩ : ∃ Ln, L.length = Ln := ⟨_, rfl⟩
  have hn2 : Ln = n + 1 := by omega
  simp only [hLn]
  clear hb3 hr3 hrd hls hx1 HLF HLL HL0 CL CW HTT m0 m1 m2 m3 HF40 hLn hn
  subst hn2
  have hnb := HLB.out
  have i1 : (0 : Int) < (((n + 1 : Nat)) : Int) := by omega
  have i2 : IntKind.i64.wrap ((((n + 1 : Nat)) : Int) - 1) = (n : Int) := by rw [show (((n + 1 : Nat)) : Int) - 1 = (n : Int) by omega]; exact IntWalk.i64_in _ (by omega)
  have i2' : IntKind.i64.wrap (n : Int) = (n : Int) := IntWalk.i64_in _ (by omega)
  have i2'' : IntKind.i64.wrap ((n : Int) + 1 - 1) = (n : Int) := by rw [show (n : Int) + 1 - 1 = (n : Int) by omega]; exact i2'
  have i3 : (n : Int) < (((n + 1 : Nat)) : Int) := by omega
  have i4 : (0 : Int) ≤ (n : Int) := by omega
  clear hnb
  go_upto_region 7 with fail
  have HNE : Hid (w.heap.size < w3.heap.size) := by
    show _ < _
    have := (KB.out w3 HT3.out).1.lt
    exact this
  have HN3 := hid (KB.out w3 HT3.out).1
  have HW2 := hid hw02
  clear hw02
  have hal : Below w3.heap.size w3 (w3.alloc (Obj.cells #[.slice A4 1 c4, .slice none 0 0] 33)) := blA _ _
  have hc0 : HasObj (w3.alloc (Obj.cells #[.slice A4 1 c4, .slice none 0 0] 33)) w3.heap.size (.cells #[.slice A4 1 c4, .slice none 0 0] 33) := HasObj.at0 _ _
  have HAL := hid hal
  have HC0 := hid hc0
  have HB4 := hid (HK3.out.trans (hal.mono HK3.out.size))
  have q1' : (w3.alloc (Obj.cells #[.slice A4 1 c4, .slice none 0 0] 33)).cell? ⟨g, o + n, none⟩ = some (.slice A5 1 c5) := (hal.cell (p := ⟨g, o + n, none⟩) (World.block_lt_of_cell? w3 _ q1)).trans q1
  generalize w3.alloc (Obj.cells #[.slice A4 1 c4, .slice none 0 0] 33) = X at *
  clear hal hc0 q0 q1
  have HTX : Hid (∀ Z, Kept (fun k => k = w3.heap.size) X Z → SliceR treeE Z (But2 w.heap.size w3.heap.size Z) ts (.slice A ts.length cap) ∧ HasObj Z w.heap.size (.cells #[.int .i64 tk, .string tx, .int .i64 tc, .slice A ts.length cap] 24) ∧ Below w.heap.size w Z) := fun Z hZ => by
    have hz := HNE.out
    have hbz := HB4.out.trans ((hZ.below (B := w.heap.size) (Nat.le_trans (Nat.le_of_lt hz) HAL.out.size) (fun k e => by rw [e]; exact Nat.le_of_lt hz)).mono (Nat.le_refl _))
    refine ⟨HV.out.keep (fun q hq => hbz.cell hq) (fun k hk => ⟨Nat.lt_of_lt_of_le hk hbz.size, Nat.ne_of_lt hk, Nat.ne_of_lt (Nat.lt_trans hk hz)⟩), hZ.obj (HN3.out.below HAL.out) (Nat.ne_of_lt hz), hbz⟩
  have HPX : Hid (∀ Z p A c, Kept (fun k => k = w3.heap.size) X Z → IntsR w3 (fun k => w2.heap.size ≤ k ∧ k < w3.heap.size) p (.slice A p.length c) → IntsR Z (But2 w.heap.size w3.heap.size Z) p (.slice A p.length c)) := fun Z p A c hZ h => by
    have hz := HW2.out
    exact h.keep (fun q hq => (hZ.cell (Nat.lt_of_lt_of_le hq.2 HAL.out.size) (Nat.ne_of_lt hq.2)).trans (HAL.out.cell hq.2)) (fun k hk => ⟨Nat.lt_of_lt_of_le hk.2 (Nat.le_trans HAL.out.size hZ.size), Nat.ne_of_gt (Nat.lt_of_lt_of_le hz hk.1), Nat.ne_of_lt hk.2⟩)
  have HCX : Hid (HasObj X w3.heap.size (.cells #[.slice A4 1 c4, .slice none 0 0] 33) ∧ X.frozen? ⟨w3.heap.size, 0, none⟩ = false ∧ X.cell? ⟨w3.heap.size, 0, none⟩ = some (.slice A4 1 c4)) := ⟨HC0.out, HC0.out.free 0, HC0.out.cell 0⟩
  clear HAL HC0 HB4 HK3 HN3 HV HT3 KB
  obtain ⟨gc, hgc⟩ : ∃ gc, w3.heap.size = gc := ⟨_, rfl⟩
  simp only [hgc] at HNE HTX HCX HPX HP0 HP1 ⊢
  cases back
  case' false =>
    have HX : Hid (ErsR false (n + 1) w.heap.size gc w X (.int .i64 0)) := by
      obtain ⟨h1, h2, h3⟩ := HTX.out X (Kept.of_below (Below.refl _ _) _)
      exact ⟨0, .mk tk tx tc ts, [], 0, A, A4, none, cap, c4, 0, rfl, Nat.zero_le _, h2, HCX.out.1, h1, HPX.out X [0] A4 c4 (Kept.of_below (Below.refl _ _) _) HP0.out, SliceR.nil_ 0 (Nat.zero_le _) none, HST.out, HM0.out, h3⟩
    clear q1' HTX HPX HP0 HP1 HCX HST HM0 i1 i2 i2' i2'' i3 i4
    go_upto_region 9 with fail
  case' true =>
    obtain ⟨_, f0, e0⟩ := HCX.out
    go_upto_region 9 with fail
    have HX : Hid (ErsR true (n + 1) w.heap.size gc w (X.setCell ⟨gc, 0, none⟩ (.slice A5 1 c5)) (.int .i64 0)) := by
      have hk := Kept.set X ⟨gc, 0, none⟩ (.slice A5 1 c5)
      obtain ⟨h1, h2, h3⟩ := HTX.out _ hk
      exact ⟨0, .mk tk tx tc ts, [], (ts.length : Int), A, A5, none, cap, c5, 0, rfl, Nat.zero_le _, h2, HCX.out.1.set _, h1, HPX.out _ [(ts.length : Int)] A5 c5 hk HP1.out, SliceR.nil_ 0 (Nat.zero_le _) none, HST.out, HM0.out, h3⟩
    generalize X.setCell ⟨gc, 0, none⟩ (.slice A5 1 c5) = X at *
    clear q1' HTX HPX HP0 HP1 HCX HST HM0 i1 i2 i2' i2'' i3 i4 f0 e0
  all_goals
    have HGC : Hid (w.heap.size ≠ gc) := by show _ ≠ _; have := HNE.out; omega
    have HBW : Hid (w.heap.size ≤ gc) := by show _ ≤ _; have := HNE.out; omega
    clear HNE hgc
    go_wp2_with fail
    go_loopw [42] (fun i wr => ErsR _ (n + 1) w.heap.size gc w wr i) (fun i _ => n + 1 - (intOf i).toNat)
    case atStart => exact HX.out
    case round =>
      obtain ⟨k, t9, q9, o9, A', Ap, Am, cap', cp, cm, rfl, hk, hN, hC, hT, hP, hM, hI, hms, hb⟩ := hrel
      have hlt : k < n + 1 := by omega
      have HLT := hid hlt
      have hpl : (q9 ++ [o9]).length ≤ 90000 := by
        have h1 := (posIn_bd t9 (q9 ++ [o9]) hI.p).1
        have h2 := (valid_count hI.v).2.2.2
        omega
      have CEk := hid (CE.out t9 (q9 ++ [o9]) A' Ap Am cap' cp cm wr (but2_lt hT (Below.refl _ _)) hI.n hI.v (but2_lt hP (Below.refl _ _)) (but2_lt hM (Below.refl _ _)) hpl)
      have hrd := er_round hI
      have m0 := hN.cell 0
      have m1 := hN.cell 1
      have m2 := hN.cell 2
      have m3 := hN.cell 3
      have c0 := hC.cell 0
      have c1 := hC.cell 1
      simp only [List.getElem?_toArray, List.getElem?_cons_zero, List.getElem?_cons_succ] at m0 m1 m2 m3 c0 c1
      have HN := hid hN
      have HC := hid hC
      have HT := hid hT
      have HI := hid hI
      have HMS := hid hms
      have HB := hid hb
      have HRDD := hid hrd
      clear hN hC hT hP hM hI hms hb hrd hpl
      obtain ⟨p9, hp9⟩ : ∃ p9, q9 ++ [o9] = p9 := ⟨_, rfl⟩
      rw [hp9] at CEk HC HMS HRDD c0
      clear hp9
      have i5 : decide ((k : Int) < ((n + 1 : Nat) : Int)) = true := by rw [decide_eq_true_eq]; omega
      have i5' : decide ((k : Int) < (n : Int) + 1) = true := by rw [decide_eq_true_eq]; omega
      rcases HRDD.out with ⟨he, hk0⟩ | ⟨ops, q', o', t', he, hap, hI', hms', hso⟩
      · rw [he] at CEk
        obtain ⟨tk9, tx9, tc9, ts9⟩ := t9
        simp only [Tree.kind, Tree.text, Tree.cols, Tree.kids] at *
        subst hk0
        clear he
        go_wp2_with fail
        refine CEk.out.mono ?_
        rintro e we ⟨Ao, co, Apb, cpb, Amb, cmb, Aap, cap9, Aam, cam, rfl, _, _, _, _, _, hbe⟩
        simp only [recZ, List.length_nil]
        have hN2 := HN.out.below hbe
        have HBE := hid (HB.out.trans (hbe.mono HB.out.size))
        clear hbe m0 m1 m2 m3 c0 c1
        go_upto_region 12 with fail
        generalize hX : World.alloc we _ = X
        have hbx : Below we.heap.size we X := by rw [← hX]; exact blA _ _
        have hN3 := hN2.below hbx
        have m3 := hN3.cell 3
        simp only [List.getElem?_toArray, List.getElem?_cons_zero, List.getElem?_cons_succ] at m3
        have HBX := hid (HBE.out.trans (hbx.mono HBE.out.size))
        clear hX hbx hN2 hN3
        go_wp2_with fail
        go_ret
        exact ⟨rfl, HBX.out⟩
      · rw [he] at CEk
        clear he HRDD
        obtain ⟨tk9, tx9, tc9, ts9⟩ := t9
        obtain ⟨tk8, tx8, tc8, ts8⟩ := t'
        obtain ⟨p8, hp8⟩ : ∃ p8, q' ++ [o'] = p8 := ⟨_, rfl⟩
        rw [hp8] at CEk hms'
        have HI' := hid hI'
        have HMS' := hid hms'
        have HSO := hid hso
        have HAP := hid hap
        have HP8 := hid hp8
        simp only [Tree.kind, Tree.text, Tree.cols, Tree.kids] at CEk HN HT m0 m1 m2 m3
        clear hI' hms' hso hap hp8
        go_wp2_with fail
        refine CEk.out.mono ?_
        rintro e we ⟨Ao, co, Apb, cpb, Amb, cmb, Aap, cap9, Aam, cam, rfl, r1, _, _, r4, r5, hbe⟩
        simp only [List.length_nil] at r1 r4 r5 ⊢
        have HN2 := hid (HN.out.below hbe)
        have HC2 := hid (HC.out.below hbe)
        have HBE := hid (HB.out.trans (hbe.mono HB.out.size))
        have HT2 := hid (but2_bl HT.out hbe)
        have HR1 := hid r1
        have HR4 := hid r4
        have HR5 := hid r5
        have hn9 := HN.out.lt
        have hc9 := HC.out.lt
        clear hbe m0 m1 m2 m3 c0 c1 r1 r4 r5
        have kb : ∀ {α : Type} {E : Enc α} {xs : List α} {v : Value}, SliceR E we (fun k => wr.heap.size ≤ k ∧ k < we.heap.size) xs v → SliceR E we (But2 w.heap.size gc we) xs v := fun h => h.keep (fun _ _ => rfl) (fun k hk => ⟨hk.2, by have := hk.1; omega, by have := hk.1; omega⟩)
        have HR1 := hid (kb HR1.out)
        have HR4 := hid (kb HR4.out)
        have HR5 := hid (kb HR5.out)
        clear kb hn9 hc9
        go_upto_region 12 with fail
        generalize hX : World.alloc we _ = X
        have hbx : Below we.heap.size we X := by rw [← hX]; exact blA _ _
        have HRX : Hid (HasObj X we.heap.size (.cells #[.slice Ao ops.length co, .slice Apb p9.length cpb, .slice Amb 0 cmb, .slice Aap p8.length cap9, .slice Aam 0 cam] 36)) := by show HasObj _ _ _; rw [← hX]; exact HasObj.at0 _ _
        have HWE := hid (And.intro (Nat.ne_of_gt HN2.out.lt) (Nat.ne_of_gt HC2.out.lt))
        have HN3 := hid (HN2.out.below hbx)
        have HC3 := hid (HC2.out.below hbx)
        have HBX := hid (HBE.out.trans (hbx.mono HBE.out.size))
        have HT3 := hid (but2_bl HT2.out hbx)
        have HR1 := hid (but2_bl HR1.out hbx)
        have HR4 := hid (but2_bl HR4.out hbx)
        have HR5 := hid (but2_bl HR5.out hbx)
        have CAk := hid (CA.out (.mk tk9 tx9 tc9 ts9) ops A' Ao cap' co X (But2 w.heap.size gc X) (fun q h => h.1) HT3.out HI.out.n HI.out.v HR1.out HSO.out)
        rw [HAP.out] at CAk
        have m0 := HN3.out.cell 0
        have m1 := HN3.out.cell 1
        have m2 := HN3.out.cell 2
        have m3 := HN3.out.cell 3
        have r0 := HRX.out.cell 0
        simp only [List.getElem?_toArray, List.getElem?_cons_zero, List.getElem?_cons_succ] at m0 m1 m2 m3 r0
        simp only [Tree.kind, Tree.text, Tree.cols, Tree.kids] at CAk
        clear hX hbx HN2 HC2 HT2 HBE CEk HN HC HT HAP HSO
        go_wp2_with fail
        refine CAk.out.mono ?_
        rintro e w7 ⟨v7, i7, rfl, h7, hb7⟩
        simp only [Tree.kind, Tree.text, Tree.cols, Tree.kids] at h7 ⊢
        obtain ⟨A7, c7, rfl⟩ := h7.form
        have HRX := hid (HRX.out.below hb7)
        have HN4 := hid (HN3.out.below hb7)
        have HC4 := hid (HC3.out.below hb7)
        have HB7 := hid (HBX.out.trans (hb7.mono HBX.out.size))
        have HR4 := hid (but2_bl HR4.out hb7)
        have HR5 := hid (but2_bl HR5.out hb7)
        have HT7 : Hid (SliceR treeE w7 (But2 w.heap.size gc w7) ts8 (.slice A7 ts8.length c7)) := by
          have hn9 := HN3.out.lt
          have hc9 := HC3.out.lt
          exact h7.keep (fun _ _ => rfl) (fun k hk => hk.elim (fun h => ⟨Nat.lt_of_lt_of_le h.1 hb7.size, h.2⟩) (fun h => ⟨h.2, by have := h.1; omega, by have := h.1; omega⟩))
        clear h7 hb7 HN3 HC3 HBX m0 m1 m2 m3 r0 CAk HT3 HR1
        go_upto_region 14 with fail
        generalize hX2 : World.alloc w7 _ = Y
        have hbx : Below w7.heap.size w7 Y := by rw [← hX2]; exact blA _ _
        have hMY : HasObj Y w7.heap.size (.cells #[.int .i64 tk8, .string tx8, .int .i64 tc8, .slice A7 ts8.length c7] 24) := by rw [← hX2]; exact HasObj.at0 _ _
        have hRY := HRX.out.below hbx
        have hNY := HN4.out.below hbx
        have hCY := HC4.out.below hbx
        have HBY := hid (HB7.out.trans (hbx.mono HB7.out.size))
        have HT8 := hid (but2_bl HT7.out hbx)
        have HR4 := hid (but2_bl HR4.out hbx)
        have HR5 := hid (but2_bl HR5.out hbx)
        have m0 := hMY.cell 0
        have m1 := hMY.cell 1
        have m2 := hMY.cell 2
        have m3 := hMY.cell 3
        have r3 := hRY.cell 3
        have r4 := hRY.cell 4
        have n0 := hNY.cell 0
        have n1 := hNY.cell 1
        have n2 := hNY.cell 2
        have n3 := hNY.cell 3
        have c0 := hCY.cell 0
        have c1 := hCY.cell 1
        have f0 := hNY.free 0
        have f1 := hNY.free 1
        have f2 := hNY.free 2
        have f3 := hNY.free 3
        have f4 := hCY.free 0
        have f5 := hCY.free 1
        simp only [List.getElem?_toArray, List.getElem?_cons_zero, List.getElem?_cons_succ] at m0 m1 m2 m3 r3 r4 n0 n1 n2 n3 c0 c1
        have ne1 : ¬ w.heap.size = gc := HGC.out
        have ne2 : ¬ gc = w.heap.size := fun e => HGC.out e.symm
        have ne3 : ¬ w7.heap.size = w.heap.size := Nat.ne_of_gt HN4.out.lt
        have ne4 : ¬ w7.heap.size = gc := Nat.ne_of_gt HC4.out.lt
        have ne5 : ¬ we.heap.size = w.heap.size := HWE.out.1
        have ne6 : ¬ we.heap.size = gc := HWE.out.2
        have HNY := hid hNY
        have HCY := hid hCY
        clear hX2 hbx hMY hRY hNY hCY HRX HN4 HC4 HB7 HT7
        go_upto_region 16 with fail
        go_region
        all_goals
          generalize hZ : World.setCell _ _ _ = Z
          have hZN : HasObj Z w.heap.size (.cells #[.int .i64 tk8, .string tx8, .int .i64 tc8, .slice A7 ts8.length c7] 24) := by
            rw [← hZ]
            exact ((((((HNY.out.set (i := 0) _).set (i := 1) _).set (i := 2) _).set (i := 3) _).far _ ne1).far _ ne1)
          have hZC : HasObj Z gc (.cells #[.slice Aap p8.length cap9, .slice Aam 0 cam] 33) := by
            rw [← hZ]
            exact ((((((HCY.out.far _ ne2).far _ ne2).far _ ne2).far _ ne2).set (i := 0) _).set (i := 1) _)
          have hkZ : Kept (fun k => k = w.heap.size ∨ k = gc) Y Z := by
            rw [← hZ]
            exact ((((((Kept.set _ ⟨w.heap.size, 0, none⟩ _).trans (Kept.set _ ⟨w.heap.size, 1, none⟩ _)).trans (Kept.set _ ⟨w.heap.size, 2, none⟩ _)).trans (Kept.set _ ⟨w.heap.size, 3, none⟩ _)).trans (Kept.set _ ⟨gc, 0, none⟩ _)).trans (Kept.set _ ⟨gc, 1, none⟩ _)).mono (fun k _ h => by simp only [or_assoc, or_self] at h ⊢; omega)
          have kz : ∀ {α : Type} {E : Enc α} {xs : List α} {v : Value}, SliceR E Y (But2 w.heap.size gc Y) xs v → SliceR E Z.drew (But2 w.heap.size gc Z.drew) xs v := fun h => h.keep (fun q hq => hkZ.cell hq.1 (fun e => e.elim hq.2.1 hq.2.2)) (fun k hk => ⟨Nat.lt_of_lt_of_le hk.1 hkZ.size, hk.2⟩)
          have hgw : w.heap.size ≤ gc := by have := HBW.out; omega
          have HBZ := hid ((HBY.out.trans ((hkZ.below (B := w.heap.size) HBY.out.size (fun k e => by omega)))).drew)
          have HKT := hid (kz HT8.out)
          have HK4 := hid (kz HR4.out)
          have HK5 := hid (kz HR5.out)
          have HZN := hid hZN.dr
          have HZC := hid hZC.dr
          clear hZ hZN hZC hkZ kz hgw
          clear m0 m1 m2 m3 r3 r4 n0 n1 n2 n3 c0 c1 f0 f1 f2 f3 f4 f5 HNY HCY HBY HT8 HR4 HR5
          have v9 : IntKind.i64.wrap ((k : Int) + 1) = (k : Int) + 1 := by have := HLB.out; have := HLT.out; exact IntWalk.i64_in _ (by omega)
          go_wp2_with fail
          go_roundw
          case rel => exact ⟨k + 1, .mk tk8 tx8 tc8 ts8, q', o', A7, Aap, Aam, c7, cap9, cam, by have := HLB.out; have := HLT.out; go_num, by have := HLT.out; omega, HZN.out, by rw [HP8.out]; exact HZC.out, HKT.out, by rw [HP8.out]; exact HK4.out, HK5.out, HI'.out, by rw [HP8.out]; have h1 := HMS.out; have h2 := HMS'.out; omega, HBZ.out⟩
          case measure => have := HLT.out; simp [intOf]; omega
end Go.Proofs.YtbjcioknfjofkaaGreat
