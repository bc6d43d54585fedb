/- Texts put together: RCut, RPl. -/
import Derived.Test.YtmahiejfniaahaaGreatDoorRow40v
import Derived.Test.YtmahiejfniaahaaGreatDoorHD
import Derived.Test.YtmahiejfniaahaaGreatDoorR28cv
import Derived.Test.YtmahiejfniaahaaGreatDoorHI
set_option linter.unusedVariables false
set_option linter.unusedSimpArgs false
set_option maxRecDepth 100000
namespace Go.Proofs.YtmahiejfniaahaaGreatDoor
open Go.RowKit
def PlcCut (X : World) (o : Option CarD) (p v : Value) (wx : World) : Prop := ∃ g A c d, p = .pointer (some ⟨g, 0, none⟩) ∧ v = .bool o.isSome ∧ (∀ d', o = some d' → d = d') ∧ RowC X wx g A c d.pos.length d.x d.top d.bottom d.pos
theorem PlcCut.late {X w5 : World} {d : CarD} {A : Option Addr} {c : Nat} (T : TypeId) (hi : IntsR w5 (fun k => X.heap.size ≤ k ∧ k < w5.heap.size) d.pos (.slice A d.pos.length c)) (hb : Below X.heap.size X w5) (g : Nat) (hg : g = w5.heap.size) (o : Option CarD) (ho : ∀ d', o = some d' → d = d') (b : Bool) (hob : b = o.isSome) :
    PlcCut X o (.pointer (some ⟨g, 0, none⟩)) (.bool b) (w5.alloc (.cells #[.slice A d.pos.length c, .int .i64 d.x, .int .i64 d.top, .int .i64 d.bottom] T)) := by
  subst hg hob
  refine ⟨_, A, c, d, rfl, rfl, ho, BoxL.new _ _ _ _ rfl _ rfl, FreeB.new _ _ _ _ rfl, hi.keep (fun p hp => (bNew _ _).cell hp.2) (fun k hk => ⟨hk.1, by simp; omega, by omega⟩), bAl hb _, hb.size, by simp⟩
theorem PlcCut.early {X w5 W' : World} {d : CarD} {A : Option Addr} {c : Nat} {T : TypeId} (hz : HasObj w5 X.heap.size (.cells #[.slice none 0 0, .int .i64 0, .int .i64 0, .int .i64 0] T)) (hi : IntsR w5 (fun k => X.heap.size < k ∧ k < w5.heap.size) d.pos (.slice A d.pos.length c)) (hb : Below X.heap.size X w5) (o : Option CarD) (ho : ∀ d', o = some d' → d = d') (b : Bool) (hob : b = o.isSome)
    (hW : W' = (((w5.setCell ⟨X.heap.size, 0, none⟩ (.slice A d.pos.length c)).setCell ⟨X.heap.size, 1, none⟩ (.int .i64 d.x)).setCell ⟨X.heap.size, 2, none⟩ (.int .i64 d.top)).setCell ⟨X.heap.size, 3, none⟩ (.int .i64 d.bottom)) :
    PlcCut X o (.pointer (some ⟨X.heap.size, 0, none⟩)) (.bool b) W' := by
  have hs := setL [.slice A d.pos.length c, .int .i64 d.x, .int .i64 d.top, .int .i64 d.bottom] w5 X.heap.size 0 (fun j hj => hz.cells.1.has j (by simpa using hj))
  rw [show setCells w5 X.heap.size 0 [.slice A d.pos.length c, .int .i64 d.x, .int .i64 d.top, .int .i64 d.bottom] = W' from hW.symm] at hs
  subst hob
  exact ⟨_, A, c, d, rfl, rfl, ho, hs.at_, fun j => (hs.frozen _).trans (hz.cells.2 j), hi.keep (fun p hp => hs.other p (Nat.ne_of_gt hp.1)) (fun k hk => ⟨Nat.le_of_lt hk.1, by rw [hs.size]; exact hk.2, Nat.ne_of_gt hk.1⟩), hs.below _ _ (Nat.le_refl _) hb, Nat.le_refl _, by rw [hs.size]; exact hz.lt⟩
end Go.Proofs.YtmahiejfniaahaaGreatDoor
set_option linter.unusedVariables false
set_option linter.unusedSimpArgs false
set_option maxRecDepth 100000
namespace Go.Proofs.YtmahiejfniaahaaGreatDoor
open Go.RowKit
set_option maxHeartbeats 8000000 in
theorem rplace_any (t : Tree) (b : Bx) (p : List Int) (A Ak As Ap : Option Addr) (cap ck cs cp : Nat) (w : World) (hv : SliceR treeE w (Lt w.heap.size) t.kids (.slice A t.kids.length cap)) (htx : t.text.size ≤ maxLen) (hct : countS t ≤ 900000) (hb : BoxIn w b Ak As ck cs) (hcb : cntB b ≤ 1000000) (hp : IntsR w (Lt w.heap.size) p (.slice Ap p.length cp)) :
    Calls Tryz.prog 14 #[nodeV t A cap, boxV b Ak As ck cs, .slice Ap p.length cp] w (CarRes w (placeR t b p)) := by
  have CV : Hid (∀ W, Below w.heap.size w W → Calls Tryz.prog 31 #[nodeV t A cap] W fun e w' => e = .returned (.bool (validS t)) ∧ Below W.heap.size W w') := fun W hW => valid_any t A cap W (hv.below hW hW.size) htx (by omega)
  have CW : Hid (∀ W, Below w.heap.size w W → Calls Tryz.prog 41 #[boxV b Ak As ck cs] W fun e w' => e = .returned (.bool (validB b)) ∧ Below W.heap.size W w') := fun W hW => bvalid28_any b Ak As ck cs W hb.ok.name (hb.below hW).src (hb.below hW).kids hcb
  have CRW : Hid (validS t = true → validB b = true → ∀ (q : List Int) (x : Int) A1 c1 W, Below w.heap.size w W → posIn t (q ++ [x]) = true → IntsR W (Lt W.heap.size) q (.slice A1 q.length c1) → Calls Tryz.prog 43 #[nodeV t A cap, boxV b Ak As ck cs, .slice A1 q.length c1, .int .i64 x] W (PlcRes W (placeS t b q x))) := fun h1 h2 q x A1 c1 W hW hpi hq => by
    obtain ⟨t0, a1, a2, a3⟩ := posIn_row t q x hpi
    obtain ⟨b1, _⟩ := posIn_bd t _ hpi
    have := (valid_count h1).1
    have := depth_le_count t
    exact rrow_any t t0 b q x A Ak As A1 cap ck cs c1 W (hv.below hW hW.size) htx (hb.below hW) h1 h2 hq a1 ⟨a2, a3⟩ (by simp at b1; omega)
  have CP : Hid (∀ W, Below w.heap.size w W → Calls Tryz.prog 42 #[nodeV t A cap, .slice Ap p.length cp] W fun e w' => e = .returned (.bool (validS t && posIn t p)) ∧ Below W.heap.size W w') := fun W hW => rValid_any t p A cap _ W (hv.below hW hW.size) htx hct (hp.below hW hW.size)
  generalize hW0 : ((w.alloc (Obj.cells #[.int .i64 t.kind, .string t.text, .int .i64 t.cols, .slice A t.kids.length cap] 24)).alloc (Obj.cells (boxC b.f (.slice Ak b.kids.length ck) (.slice As b.f.src.length cs)) 28)).alloc (.cells #[.slice none 0 0, .int .i64 0, .int .i64 0, .int .i64 0] 36) = W0
  have KB : Hid (∀ W, Below W0.heap.size W0 W → Laid2 W w.heap.size w.heap.size t b A Ak As cap ck cs ∧ BoxL W (w.heap.size + 2) 0 [.slice none 0 0, .int .i64 0, .int .i64 0, .int .i64 0] ∧ FreeB W (w.heap.size + 2) ∧ Below w.heap.size w W ∧ w.heap.size + 2 < W.heap.size) := fun W hW => by
    have hz0 : W0.heap.size = w.heap.size + 3 := by rw [← hW0]; simp
    have h1 := Laid2.new w t b A Ak As cap ck cs 24 28 hv hb
    have h2 := h1.below (bNew _ (.cells #[.slice none 0 0, .int .i64 0, .int .i64 0, .int .i64 0] 36)) (by simp) (by simp; omega)
    have h3 : Below w.heap.size w W0 := by rw [← hW0]; exact bAl (bAl (bNew _ _) _) _
    have h4 : BoxL W0 (w.heap.size + 2) 0 [.slice none 0 0, .int .i64 0, .int .i64 0, .int .i64 0] ∧ FreeB W0 (w.heap.size + 2) := by rw [← hW0]; exact ⟨BoxL.new _ _ _ _ (by simp) _ rfl, FreeB.new _ _ _ _ (by simp)⟩
    rw [hW0] at h2
    exact ⟨h2.below hW (by omega) (by omega), h4.1.below hW (by omega), h4.2.below hW (by omega), h3.trans (hW.mono h3.size), by have := hW.size; omega⟩
  have HR0 : Hid (placeR t b p = if (validS t && validB b) = false then (zeroC, (1 : Int)) else if posIn t p = false then (zeroC, (2 : Int)) else match placeP t b p with | none => (zeroC, (8 : Int)) | some d => (d, (0 : Int))) := rfl
  generalize placeR t b p = r at *
  have HPR := hid hp
  clear hv htx hb hp hct hcb
  cases hv1 : validS t with
  | false =>
    rw [hv1] at CV HR0
    have HR : Hid (r = (zeroC, 1)) := by have h := HR0.out; rwa [if_pos (by simp)] at h
    clear HR0 CP CW CRW HPR hv1
    obtain ⟨hl2, hrz, hfz, hbw, hgz⟩ := KB.out W0 (Below.refl _ _)
    have m0 := hl2.node 0 _ rfl
    have m1 := hl2.node 1 _ rfl
    have m2 := hl2.node 2 _ rfl
    have m3 := hl2.node 3 _ rfl
    have n0 := hl2.box 0 _ rfl
    have n1 := hl2.box 1 _ rfl
    have n2 := hl2.box 2 _ rfl
    have n3 := hl2.box 3 _ rfl
    have n4 := hl2.box 4 _ rfl
    have n5 := hl2.box 5 _ rfl
    have n6 := hl2.box 6 _ rfl
    have n7 := hl2.box 7 _ rfl
    have n8 := hl2.box 8 _ rfl
    have n9 := hl2.box 9 _ rfl
    have n10 := hl2.box 10 _ rfl
    have r0 := hrz 0 _ rfl
    have r1 := hrz 1 _ rfl
    have r2 := hrz 2 _ rfl
    have r3 := hrz 3 _ rfl
    have f0 := hfz 0
    have f1 := hfz 1
    have f2 := hfz 2
    have f3 := hfz 3
    simp only [Nat.zero_add] at m0 m1 m2 m3 n0 n1 n2 n3 n4 n5 n6 n7 n8 n9 n10 r0 r1 r2 r3
    have HBW_W0 := hid hbw
    clear hl2 hrz hfz hbw hgz
    go_enter Tryz.func14, Tryz.ntmps14
    go_wp2_with fail
    clear hW0
    refine (CV.out _ HBW_W0.out).mono ?_
    rintro e w1 ⟨rfl, hb1⟩
    have HT1 := hid hb1
    clear hb1
    clear m0 m1 m2 m3 n0 n1 n2 n3 n4 n5 n6 n7 n8 n9 n10 r0 r1 r2 r3 f0 f1 f2 f3
    obtain ⟨hl2, hrz, hfz, hbw, hgz⟩ := KB.out w1 HT1.out
    have m0 := hl2.node 0 _ rfl
    have m1 := hl2.node 1 _ rfl
    have m2 := hl2.node 2 _ rfl
    have m3 := hl2.node 3 _ rfl
    have n0 := hl2.box 0 _ rfl
    have n1 := hl2.box 1 _ rfl
    have n2 := hl2.box 2 _ rfl
    have n3 := hl2.box 3 _ rfl
    have n4 := hl2.box 4 _ rfl
    have n5 := hl2.box 5 _ rfl
    have n6 := hl2.box 6 _ rfl
    have n7 := hl2.box 7 _ rfl
    have n8 := hl2.box 8 _ rfl
    have n9 := hl2.box 9 _ rfl
    have n10 := hl2.box 10 _ rfl
    have r0 := hrz 0 _ rfl
    have r1 := hrz 1 _ rfl
    have r2 := hrz 2 _ rfl
    have r3 := hrz 3 _ rfl
    have f0 := hfz 0
    have f1 := hfz 1
    have f2 := hfz 2
    have f3 := hfz 3
    simp only [Nat.zero_add] at m0 m1 m2 m3 n0 n1 n2 n3 n4 n5 n6 n7 n8 n9 n10 r0 r1 r2 r3
    have HBW_w1 := hid hbw
    clear hl2 hrz hfz hbw hgz
    go_wp2_with fail
    generalize hW : (((w1.setCell _ (.slice none 0 0)).setCell _ (.int .i64 0)).setCell _ (.int .i64 0)).setCell _ (.int .i64 0) = WE
    obtain ⟨⟨z0, z1, z2, z3⟩, rz, rb, ro, _⟩ := four r0 r1 r2 r3 _ _ _ _ hW.symm
    have HB' := hid (rb w.heap.size w (by omega) HBW_w1.out)
    have HRO := hid ro
    have HRZ := hid rz
    clear hW ro rb rz
    refine bodyPost_ret (v := .tuple #[.agg #[.slice none 0 0, .int .i64 0, .int .i64 0, .int .i64 0], .int .i64 1]) (by simp [results, Tryz.results14, go_sem, z0, z1, z2, z3]) rfl ?_
    have h := HR.out
    exact ⟨HB'.out, .slice none 0 0, by rw [h]; rfl, by rw [h]; exact SliceR.nil_ 0 (Nat.zero_le _) none⟩
  | true =>
    rw [hv1] at CV HR0 CP
    cases hv2 : validB b with
    | false =>
      rw [hv2] at CW HR0
      have HR : Hid (r = (zeroC, 1)) := by have h := HR0.out; rwa [if_pos (by simp)] at h
      clear HR0 CP CRW HPR hv1 hv2
      obtain ⟨hl2, hrz, hfz, hbw, hgz⟩ := KB.out W0 (Below.refl _ _)
      have m0 := hl2.node 0 _ rfl
      have m1 := hl2.node 1 _ rfl
      have m2 := hl2.node 2 _ rfl
      have m3 := hl2.node 3 _ rfl
      have n0 := hl2.box 0 _ rfl
      have n1 := hl2.box 1 _ rfl
      have n2 := hl2.box 2 _ rfl
      have n3 := hl2.box 3 _ rfl
      have n4 := hl2.box 4 _ rfl
      have n5 := hl2.box 5 _ rfl
      have n6 := hl2.box 6 _ rfl
      have n7 := hl2.box 7 _ rfl
      have n8 := hl2.box 8 _ rfl
      have n9 := hl2.box 9 _ rfl
      have n10 := hl2.box 10 _ rfl
      have r0 := hrz 0 _ rfl
      have r1 := hrz 1 _ rfl
      have r2 := hrz 2 _ rfl
      have r3 := hrz 3 _ rfl
      have f0 := hfz 0
      have f1 := hfz 1
      have f2 := hfz 2
      have f3 := hfz 3
      simp only [Nat.zero_add] at m0 m1 m2 m3 n0 n1 n2 n3 n4 n5 n6 n7 n8 n9 n10 r0 r1 r2 r3
      have HBW_W0 := hid hbw
      clear hl2 hrz hfz hbw hgz
      go_enter Tryz.func14, Tryz.ntmps14
      go_wp2_with fail
      clear hW0
      refine (CV.out _ HBW_W0.out).mono ?_
      rintro e w1 ⟨rfl, hb1⟩
      have HT1 := hid hb1
      clear hb1
      clear m0 m1 m2 m3 n0 n1 n2 n3 n4 n5 n6 n7 n8 n9 n10 r0 r1 r2 r3 f0 f1 f2 f3
      obtain ⟨hl2, hrz, hfz, hbw, hgz⟩ := KB.out w1 HT1.out
      have m0 := hl2.node 0 _ rfl
      have m1 := hl2.node 1 _ rfl
      have m2 := hl2.node 2 _ rfl
      have m3 := hl2.node 3 _ rfl
      have n0 := hl2.box 0 _ rfl
      have n1 := hl2.box 1 _ rfl
      have n2 := hl2.box 2 _ rfl
      have n3 := hl2.box 3 _ rfl
      have n4 := hl2.box 4 _ rfl
      have n5 := hl2.box 5 _ rfl
      have n6 := hl2.box 6 _ rfl
      have n7 := hl2.box 7 _ rfl
      have n8 := hl2.box 8 _ rfl
      have n9 := hl2.box 9 _ rfl
      have n10 := hl2.box 10 _ rfl
      have r0 := hrz 0 _ rfl
      have r1 := hrz 1 _ rfl
      have r2 := hrz 2 _ rfl
      have r3 := hrz 3 _ rfl
      have f0 := hfz 0
      have f1 := hfz 1
      have f2 := hfz 2
      have f3 := hfz 3
      simp only [Nat.zero_add] at m0 m1 m2 m3 n0 n1 n2 n3 n4 n5 n6 n7 n8 n9 n10 r0 r1 r2 r3
      have HBW_w1 := hid hbw
      clear hl2 hrz hfz hbw hgz
      go_wp2_with fail
      refine (CW.out _ HBW_w1.out).mono ?_
      rintro e w2 ⟨rfl, hb2⟩
      have HT2 := hid (bCl HT1.out hb2)
      clear hb2
      clear m0 m1 m2 m3 n0 n1 n2 n3 n4 n5 n6 n7 n8 n9 n10 r0 r1 r2 r3 f0 f1 f2 f3
      obtain ⟨hl2, hrz, hfz, hbw, hgz⟩ := KB.out w2 HT2.out
      have m0 := hl2.node 0 _ rfl
      have m1 := hl2.node 1 _ rfl
      have m2 := hl2.node 2 _ rfl
      have m3 := hl2.node 3 _ rfl
      have n0 := hl2.box 0 _ rfl
      have n1 := hl2.box 1 _ rfl
      have n2 := hl2.box 2 _ rfl
      have n3 := hl2.box 3 _ rfl
      have n4 := hl2.box 4 _ rfl
      have n5 := hl2.box 5 _ rfl
      have n6 := hl2.box 6 _ rfl
      have n7 := hl2.box 7 _ rfl
      have n8 := hl2.box 8 _ rfl
      have n9 := hl2.box 9 _ rfl
      have n10 := hl2.box 10 _ rfl
      have r0 := hrz 0 _ rfl
      have r1 := hrz 1 _ rfl
      have r2 := hrz 2 _ rfl
      have r3 := hrz 3 _ rfl
      have f0 := hfz 0
      have f1 := hfz 1
      have f2 := hfz 2
      have f3 := hfz 3
      simp only [Nat.zero_add] at m0 m1 m2 m3 n0 n1 n2 n3 n4 n5 n6 n7 n8 n9 n10 r0 r1 r2 r3
      have HBW_w2 := hid hbw
      clear hl2 hrz hfz hbw hgz
      go_wp2_with fail
      generalize hW : (((w2.setCell _ (.slice none 0 0)).setCell _ (.int .i64 0)).setCell _ (.int .i64 0)).setCell _ (.int .i64 0) = WE
      obtain ⟨⟨z0, z1, z2, z3⟩, rz, rb, ro, _⟩ := four r0 r1 r2 r3 _ _ _ _ hW.symm
      have HB' := hid (rb w.heap.size w (by omega) HBW_w2.out)
      have HRO := hid ro
      have HRZ := hid rz
      clear hW ro rb rz
      refine bodyPost_ret (v := .tuple #[.agg #[.slice none 0 0, .int .i64 0, .int .i64 0, .int .i64 0], .int .i64 1]) (by simp [results, Tryz.results14, go_sem, z0, z1, z2, z3]) rfl ?_
      have h := HR.out
      exact ⟨HB'.out, .slice none 0 0, by rw [h]; rfl, by rw [h]; exact SliceR.nil_ 0 (Nat.zero_le _) none⟩
    | true =>
      rw [hv2] at CW HR0
      have CRW2 := hid (CRW.out hv1 hv2)
      cases hpi : posIn t p with
      | false =>
        rw [hpi] at CP HR0
        have HR : Hid (r = (zeroC, 2)) := by have h := HR0.out; rwa [if_neg (by simp), if_pos rfl] at h
        clear HR0 CRW CRW2 HPR hv1 hv2 hpi
        obtain ⟨hl2, hrz, hfz, hbw, hgz⟩ := KB.out W0 (Below.refl _ _)
        have m0 := hl2.node 0 _ rfl
        have m1 := hl2.node 1 _ rfl
        have m2 := hl2.node 2 _ rfl
        have m3 := hl2.node 3 _ rfl
        have n0 := hl2.box 0 _ rfl
        have n1 := hl2.box 1 _ rfl
        have n2 := hl2.box 2 _ rfl
        have n3 := hl2.box 3 _ rfl
        have n4 := hl2.box 4 _ rfl
        have n5 := hl2.box 5 _ rfl
        have n6 := hl2.box 6 _ rfl
        have n7 := hl2.box 7 _ rfl
        have n8 := hl2.box 8 _ rfl
        have n9 := hl2.box 9 _ rfl
        have n10 := hl2.box 10 _ rfl
        have r0 := hrz 0 _ rfl
        have r1 := hrz 1 _ rfl
        have r2 := hrz 2 _ rfl
        have r3 := hrz 3 _ rfl
        have f0 := hfz 0
        have f1 := hfz 1
        have f2 := hfz 2
        have f3 := hfz 3
        simp only [Nat.zero_add] at m0 m1 m2 m3 n0 n1 n2 n3 n4 n5 n6 n7 n8 n9 n10 r0 r1 r2 r3
        have HBW_W0 := hid hbw
        clear hl2 hrz hfz hbw hgz
        go_enter Tryz.func14, Tryz.ntmps14
        go_wp2_with fail
        clear hW0
        refine (CV.out _ HBW_W0.out).mono ?_
        rintro e w1 ⟨rfl, hb1⟩
        have HT1 := hid hb1
        clear hb1
        clear m0 m1 m2 m3 n0 n1 n2 n3 n4 n5 n6 n7 n8 n9 n10 r0 r1 r2 r3 f0 f1 f2 f3
        obtain ⟨hl2, hrz, hfz, hbw, hgz⟩ := KB.out w1 HT1.out
        have m0 := hl2.node 0 _ rfl
        have m1 := hl2.node 1 _ rfl
        have m2 := hl2.node 2 _ rfl
        have m3 := hl2.node 3 _ rfl
        have n0 := hl2.box 0 _ rfl
        have n1 := hl2.box 1 _ rfl
        have n2 := hl2.box 2 _ rfl
        have n3 := hl2.box 3 _ rfl
        have n4 := hl2.box 4 _ rfl
        have n5 := hl2.box 5 _ rfl
        have n6 := hl2.box 6 _ rfl
        have n7 := hl2.box 7 _ rfl
        have n8 := hl2.box 8 _ rfl
        have n9 := hl2.box 9 _ rfl
        have n10 := hl2.box 10 _ rfl
        have r0 := hrz 0 _ rfl
        have r1 := hrz 1 _ rfl
        have r2 := hrz 2 _ rfl
        have r3 := hrz 3 _ rfl
        have f0 := hfz 0
        have f1 := hfz 1
        have f2 := hfz 2
        have f3 := hfz 3
        simp only [Nat.zero_add] at m0 m1 m2 m3 n0 n1 n2 n3 n4 n5 n6 n7 n8 n9 n10 r0 r1 r2 r3
        have HBW_w1 := hid hbw
        clear hl2 hrz hfz hbw hgz
        go_wp2_with fail
        refine (CW.out _ HBW_w1.out).mono ?_
        rintro e w2 ⟨rfl, hb2⟩
        have HT2 := hid (bCl HT1.out hb2)
        clear hb2
        clear m0 m1 m2 m3 n0 n1 n2 n3 n4 n5 n6 n7 n8 n9 n10 r0 r1 r2 r3 f0 f1 f2 f3
        obtain ⟨hl2, hrz, hfz, hbw, hgz⟩ := KB.out w2 HT2.out
        have m0 := hl2.node 0 _ rfl
        have m1 := hl2.node 1 _ rfl
        have m2 := hl2.node 2 _ rfl
        have m3 := hl2.node 3 _ rfl
        have n0 := hl2.box 0 _ rfl
        have n1 := hl2.box 1 _ rfl
        have n2 := hl2.box 2 _ rfl
        have n3 := hl2.box 3 _ rfl
        have n4 := hl2.box 4 _ rfl
        have n5 := hl2.box 5 _ rfl
        have n6 := hl2.box 6 _ rfl
        have n7 := hl2.box 7 _ rfl
        have n8 := hl2.box 8 _ rfl
        have n9 := hl2.box 9 _ rfl
        have n10 := hl2.box 10 _ rfl
        have r0 := hrz 0 _ rfl
        have r1 := hrz 1 _ rfl
        have r2 := hrz 2 _ rfl
        have r3 := hrz 3 _ rfl
        have f0 := hfz 0
        have f1 := hfz 1
        have f2 := hfz 2
        have f3 := hfz 3
        simp only [Nat.zero_add] at m0 m1 m2 m3 n0 n1 n2 n3 n4 n5 n6 n7 n8 n9 n10 r0 r1 r2 r3
        have HBW_w2 := hid hbw
        clear hl2 hrz hfz hbw hgz
        go_wp2_with fail
        refine (CP.out _ HBW_w2.out).mono ?_
        rintro e w3 ⟨rfl, hb3⟩
        have HT3 := hid (bCl HT2.out hb3)
        clear hb3
        clear m0 m1 m2 m3 n0 n1 n2 n3 n4 n5 n6 n7 n8 n9 n10 r0 r1 r2 r3 f0 f1 f2 f3
        obtain ⟨hl2, hrz, hfz, hbw, hgz⟩ := KB.out w3 HT3.out
        have m0 := hl2.node 0 _ rfl
        have m1 := hl2.node 1 _ rfl
        have m2 := hl2.node 2 _ rfl
        have m3 := hl2.node 3 _ rfl
        have n0 := hl2.box 0 _ rfl
        have n1 := hl2.box 1 _ rfl
        have n2 := hl2.box 2 _ rfl
        have n3 := hl2.box 3 _ rfl
        have n4 := hl2.box 4 _ rfl
        have n5 := hl2.box 5 _ rfl
        have n6 := hl2.box 6 _ rfl
        have n7 := hl2.box 7 _ rfl
        have n8 := hl2.box 8 _ rfl
        have n9 := hl2.box 9 _ rfl
        have n10 := hl2.box 10 _ rfl
        have r0 := hrz 0 _ rfl
        have r1 := hrz 1 _ rfl
        have r2 := hrz 2 _ rfl
        have r3 := hrz 3 _ rfl
        have f0 := hfz 0
        have f1 := hfz 1
        have f2 := hfz 2
        have f3 := hfz 3
        simp only [Nat.zero_add] at m0 m1 m2 m3 n0 n1 n2 n3 n4 n5 n6 n7 n8 n9 n10 r0 r1 r2 r3
        have HBW_w3 := hid hbw
        clear hl2 hrz hfz hbw hgz
        go_wp2_with fail
        generalize hW : (((w3.setCell _ (.slice none 0 0)).setCell _ (.int .i64 0)).setCell _ (.int .i64 0)).setCell _ (.int .i64 0) = WE
        obtain ⟨⟨z0, z1, z2, z3⟩, rz, rb, ro, _⟩ := four r0 r1 r2 r3 _ _ _ _ hW.symm
        have HB' := hid (rb w.heap.size w (by omega) HBW_w3.out)
        have HRO := hid ro
        have HRZ := hid rz
        clear hW ro rb rz
        refine bodyPost_ret (v := .tuple #[.agg #[.slice none 0 0, .int .i64 0, .int .i64 0, .int .i64 0], .int .i64 2]) (by simp [results, Tryz.results14, go_sem, z0, z1, z2, z3]) rfl ?_
        have h := HR.out
        exact ⟨HB'.out, .slice none 0 0, by rw [h]; rfl, by rw [h]; exact SliceR.nil_ 0 (Nat.zero_le _) none⟩
      | true =>
        rw [hpi] at CP HR0
        obtain ⟨q, x, hqx⟩ := posIn_ne hpi
        have hpl : p.length = q.length + 1 := by rw [hqx]; simp
        have HO : Hid (placeP t b p = placeS t b q x) := by show _ = _; rw [hqx, placeP_snoc]
        have hp' := HPR.out
        have hcp : q.length + 1 ≤ cp := by obtain ⟨_, _, _, hq, h1, _⟩ := hp'; cases hq; omega
        rw [hpl] at hp'
        obtain ⟨A1, hsl, hcut⟩ := cut_h intE Tryz.underlying26 size_int Ap (q.length + 1) cp (q.length : Int) q.length rfl (by omega) hcp
        have hq1 := hcut _ _ _ hp'
        rw [hqx, List.take_left' rfl] at hq1
        obtain ⟨gp, op, hAp, hgp, hcx⟩ : ∃ gp op, Ap = some ⟨gp, op, none⟩ ∧ gp < w.heap.size ∧ w.cell? ⟨gp, op + q.length, none⟩ = some (.int .i64 x) := by
          obtain ⟨_, _, is, hq, _, _, hrd, hi⟩ := HPR.out
          cases hq
          obtain ⟨g, o, e, h1, h2, h3⟩ := ints_at hrd hi (k := q.length) (by omega)
          refine ⟨g, o, e, h1, ?_⟩
          rw [h3]
          simp [hqx]
        subst hAp
        have CRX : Hid (∀ W, Below w.heap.size w W → Calls Tryz.prog 43 #[nodeV t A cap, boxV b Ak As ck cs, .slice A1 q.length cp, .int .i64 x] W (PlcRes W (placeP t b p))) := fun W hW => by
          rw [HO.out]
          exact CRW2.out q x A1 cp W hW (by rw [← hqx]; exact hpi) (hq1.below hW hW.size)
        have HXC : Hid (∀ W, Below w.heap.size w W → W.cell? ⟨gp, op + q.length, none⟩ = some (.int .i64 x)) := fun W hW => (hW.cell (p := ⟨gp, op + q.length, none⟩) hgp).trans hcx
        have hql : q.length ≤ 9223372036854775806 := by have := HPR.out.lens; unfold maxLen at this; omega
        have HPL := hid hpl
        rw [hpl] at CP
        generalize placeP t b p = o at *
        have goal : Calls Tryz.prog 14 #[nodeV t A cap, boxV b Ak As ck cs, .slice (some ⟨gp, op, none⟩) (q.length + 1) cp] w (CarRes w r) := by
          clear HPR CRW CRW2 hv1 hv2 hpi hpl HO hp' hcp hcut hq1 hcx hqx
          cases o with
          | none =>
            have HR : Hid (r = (zeroC, 8)) := by have h := HR0.out; rwa [if_neg (by simp), if_neg (by simp)] at h
            clear HR0
            obtain ⟨hl2, hrz, hfz, hbw, hgz⟩ := KB.out W0 (Below.refl _ _)
            have m0 := hl2.node 0 _ rfl
            have m1 := hl2.node 1 _ rfl
            have m2 := hl2.node 2 _ rfl
            have m3 := hl2.node 3 _ rfl
            have n0 := hl2.box 0 _ rfl
            have n1 := hl2.box 1 _ rfl
            have n2 := hl2.box 2 _ rfl
            have n3 := hl2.box 3 _ rfl
            have n4 := hl2.box 4 _ rfl
            have n5 := hl2.box 5 _ rfl
            have n6 := hl2.box 6 _ rfl
            have n7 := hl2.box 7 _ rfl
            have n8 := hl2.box 8 _ rfl
            have n9 := hl2.box 9 _ rfl
            have n10 := hl2.box 10 _ rfl
            have r0 := hrz 0 _ rfl
            have r1 := hrz 1 _ rfl
            have r2 := hrz 2 _ rfl
            have r3 := hrz 3 _ rfl
            have f0 := hfz 0
            have f1 := hfz 1
            have f2 := hfz 2
            have f3 := hfz 3
            simp only [Nat.zero_add] at m0 m1 m2 m3 n0 n1 n2 n3 n4 n5 n6 n7 n8 n9 n10 r0 r1 r2 r3
            have HBW_W0 := hid hbw
            clear hl2 hrz hfz hbw hgz
            go_enter Tryz.func14, Tryz.ntmps14
            go_wp2_with fail
            clear hW0
            refine (CV.out _ HBW_W0.out).mono ?_
            rintro e w1 ⟨rfl, hb1⟩
            have HT1 := hid hb1
            clear hb1
            clear m0 m1 m2 m3 n0 n1 n2 n3 n4 n5 n6 n7 n8 n9 n10 r0 r1 r2 r3 f0 f1 f2 f3
            obtain ⟨hl2, hrz, hfz, hbw, hgz⟩ := KB.out w1 HT1.out
            have m0 := hl2.node 0 _ rfl
            have m1 := hl2.node 1 _ rfl
            have m2 := hl2.node 2 _ rfl
            have m3 := hl2.node 3 _ rfl
            have n0 := hl2.box 0 _ rfl
            have n1 := hl2.box 1 _ rfl
            have n2 := hl2.box 2 _ rfl
            have n3 := hl2.box 3 _ rfl
            have n4 := hl2.box 4 _ rfl
            have n5 := hl2.box 5 _ rfl
            have n6 := hl2.box 6 _ rfl
            have n7 := hl2.box 7 _ rfl
            have n8 := hl2.box 8 _ rfl
            have n9 := hl2.box 9 _ rfl
            have n10 := hl2.box 10 _ rfl
            have r0 := hrz 0 _ rfl
            have r1 := hrz 1 _ rfl
            have r2 := hrz 2 _ rfl
            have r3 := hrz 3 _ rfl
            have f0 := hfz 0
            have f1 := hfz 1
            have f2 := hfz 2
            have f3 := hfz 3
            simp only [Nat.zero_add] at m0 m1 m2 m3 n0 n1 n2 n3 n4 n5 n6 n7 n8 n9 n10 r0 r1 r2 r3
            have HBW_w1 := hid hbw
            clear hl2 hrz hfz hbw hgz
            go_wp2_with fail
            refine (CW.out _ HBW_w1.out).mono ?_
            rintro e w2 ⟨rfl, hb2⟩
            have HT2 := hid (bCl HT1.out hb2)
            clear hb2
            clear m0 m1 m2 m3 n0 n1 n2 n3 n4 n5 n6 n7 n8 n9 n10 r0 r1 r2 r3 f0 f1 f2 f3
            obtain ⟨hl2, hrz, hfz, hbw, hgz⟩ := KB.out w2 HT2.out
            have m0 := hl2.node 0 _ rfl
            have m1 := hl2.node 1 _ rfl
            have m2 := hl2.node 2 _ rfl
            have m3 := hl2.node 3 _ rfl
            have n0 := hl2.box 0 _ rfl
            have n1 := hl2.box 1 _ rfl
            have n2 := hl2.box 2 _ rfl
            have n3 := hl2.box 3 _ rfl
            have n4 := hl2.box 4 _ rfl
            have n5 := hl2.box 5 _ rfl
            have n6 := hl2.box 6 _ rfl
            have n7 := hl2.box 7 _ rfl
            have n8 := hl2.box 8 _ rfl
            have n9 := hl2.box 9 _ rfl
            have n10 := hl2.box 10 _ rfl
            have r0 := hrz 0 _ rfl
            have r1 := hrz 1 _ rfl
            have r2 := hrz 2 _ rfl
            have r3 := hrz 3 _ rfl
            have f0 := hfz 0
            have f1 := hfz 1
            have f2 := hfz 2
            have f3 := hfz 3
            simp only [Nat.zero_add] at m0 m1 m2 m3 n0 n1 n2 n3 n4 n5 n6 n7 n8 n9 n10 r0 r1 r2 r3
            have HBW_w2 := hid hbw
            clear hl2 hrz hfz hbw hgz
            go_wp2_with fail
            refine (CP.out _ HBW_w2.out).mono ?_
            rintro e w3 ⟨rfl, hb3⟩
            have HT3 := hid (bCl HT2.out hb3)
            clear hb3
            clear m0 m1 m2 m3 n0 n1 n2 n3 n4 n5 n6 n7 n8 n9 n10 r0 r1 r2 r3 f0 f1 f2 f3
            obtain ⟨hl2, hrz, hfz, hbw, hgz⟩ := KB.out w3 HT3.out
            have m0 := hl2.node 0 _ rfl
            have m1 := hl2.node 1 _ rfl
            have m2 := hl2.node 2 _ rfl
            have m3 := hl2.node 3 _ rfl
            have n0 := hl2.box 0 _ rfl
            have n1 := hl2.box 1 _ rfl
            have n2 := hl2.box 2 _ rfl
            have n3 := hl2.box 3 _ rfl
            have n4 := hl2.box 4 _ rfl
            have n5 := hl2.box 5 _ rfl
            have n6 := hl2.box 6 _ rfl
            have n7 := hl2.box 7 _ rfl
            have n8 := hl2.box 8 _ rfl
            have n9 := hl2.box 9 _ rfl
            have n10 := hl2.box 10 _ rfl
            have r0 := hrz 0 _ rfl
            have r1 := hrz 1 _ rfl
            have r2 := hrz 2 _ rfl
            have r3 := hrz 3 _ rfl
            have f0 := hfz 0
            have f1 := hfz 1
            have f2 := hfz 2
            have f3 := hfz 3
            simp only [Nat.zero_add] at m0 m1 m2 m3 n0 n1 n2 n3 n4 n5 n6 n7 n8 n9 n10 r0 r1 r2 r3
            have HBW_w3 := hid hbw
            clear hl2 hrz hfz hbw hgz
            have HD1 : Hid (Below w.heap.size w w3.drew) := HBW_w3.out.drew
            have HD2 : Hid (Below w.heap.size w (w3.alloc (.cells #[.slice none 0 0, .int .i64 0, .int .i64 0, .int .i64 0] 36)).drew) := ((bNew w3 _).mono HBW_w3.out.size |> HBW_w3.out.trans).drew
            have HZL : Hid (w3.heap.size < (w3.alloc (.cells #[.slice none 0 0, .int .i64 0, .int .i64 0, .int .i64 0] 36)).drew.heap.size) := by show _ < (w3.alloc _).heap.size; simp
            have hx5 := HXC.out _ HBW_w3.out
            have hq5 : (q.length : Int) < ((q.length : Int) + 1) := by omega
            have hg1 := (KB.out w3 HT3.out).2.2.2.2
            have hgw : gp < w.heap.size := hgp
            have ne1 : ¬ (w.heap.size = w3.heap.size) := by omega
            have ne2 : ¬ (w3.heap.size = w.heap.size) := by omega
            have ne3 : ¬ (w.heap.size + 1 = w3.heap.size) := by omega
            have ne4 : ¬ (w3.heap.size = w.heap.size + 1) := by omega
            have ne5 : ¬ (gp = w3.heap.size) := by omega
            have ne6 : ¬ (w3.heap.size = gp) := by omega
            go_upto_region 6 with fail
            go_cut [9, 10] (fun p v wx => PlcCut w3 none p v wx)
            case first =>
              clear r0 r1 r2 r3 f0 f1 f2 f3
              go_wp2_with fail
              go_region_held3 (fun w' => w'.cell? ⟨w.heap.size, 0, none⟩ = some (.int .i64 t.kind) ∧ w'.cell? ⟨w.heap.size, 1, none⟩ = some (.string t.text) ∧ w'.cell? ⟨w.heap.size, 2, none⟩ = some (.int .i64 t.cols) ∧ w'.cell? ⟨w.heap.size, 3, none⟩ = some (.slice A t.kids.length cap) ∧ w'.cell? ⟨w.heap.size + 1, 0, none⟩ = some (.int .i64 b.f.kind) ∧ w'.cell? ⟨w.heap.size + 1, 1, none⟩ = some (.string b.f.name) ∧ w'.cell? ⟨w.heap.size + 1, 2, none⟩ = some (.int .i64 b.f.size) ∧ w'.cell? ⟨w.heap.size + 1, 3, none⟩ = some (.int .i64 b.f.w) ∧ w'.cell? ⟨w.heap.size + 1, 4, none⟩ = some (.int .i64 b.f.h) ∧ w'.cell? ⟨w.heap.size + 1, 5, none⟩ = some (.int .i64 b.f.d) ∧ w'.cell? ⟨w.heap.size + 1, 6, none⟩ = some (.int .i64 b.f.x) ∧ w'.cell? ⟨w.heap.size + 1, 7, none⟩ = some (.int .i64 b.f.y) ∧ w'.cell? ⟨w.heap.size + 1, 8, none⟩ = some (.slice Ak b.kids.length ck) ∧ w'.cell? ⟨w.heap.size + 1, 9, none⟩ = some (.int .i64 b.f.of_) ∧ w'.cell? ⟨w.heap.size + 1, 10, none⟩ = some (.slice As b.f.src.length cs) ∧ w'.cell? ⟨gp, op + q.length, none⟩ = some (.int .i64 x)) (go_keep) (first
                | (go_at_call 43; (with_reducible refine (CRX.out _ HD1.out).mono ?_); rintro e w5 ⟨hb5, (⟨_, rfl⟩ | ⟨d', v5, ho, _⟩)⟩; (case inr => cases ho); have HB5 : Hid (Below w3.heap.size w3 w5) := bDr hb5; clear hb5 ; obtain ⟨hl2, _, _, hbw, _⟩ := KB.out w5 (bCl HT3.out HB5.out); have m0 := hl2.node 0 _ rfl; have m1 := hl2.node 1 _ rfl; have m2 := hl2.node 2 _ rfl; have m3 := hl2.node 3 _ rfl; have n0 := hl2.box 0 _ rfl; have n1 := hl2.box 1 _ rfl; have n2 := hl2.box 2 _ rfl; have n3 := hl2.box 3 _ rfl; have n4 := hl2.box 4 _ rfl; have n5 := hl2.box 5 _ rfl; have n6 := hl2.box 6 _ rfl; have n7 := hl2.box 7 _ rfl; have n8 := hl2.box 8 _ rfl; have n9 := hl2.box 9 _ rfl; have n10 := hl2.box 10 _ rfl; simp only [Nat.zero_add] at m0 m1 m2 m3 n0 n1 n2 n3 n4 n5 n6 n7 n8 n9 n10; have hx5 := HXC.out _ hbw; clear hl2 hbw)
                | (go_at_call 43; (with_reducible refine (CRX.out _ HD2.out).mono ?_); rintro e w5 ⟨hb5, (⟨_, rfl⟩ | ⟨d', v5, ho, _⟩)⟩; (case inr => cases ho); have HB5 : Hid (Below w3.heap.size w3 w5) := bCl (bNew w3 _).drew hb5; have HZ5 : Hid (HasObj w5 w3.heap.size (.cells #[.slice none 0 0, .int .i64 0, .int .i64 0, .int .i64 0] 36)) := ((HasObj.at0 w3 _).dr).below hb5; obtain ⟨z0, z1, z2, z3, y0, y1, y2, y3⟩ := zfacts HZ5.out; clear hb5 ; obtain ⟨hl2, _, _, hbw, _⟩ := KB.out w5 (bCl HT3.out HB5.out); have m0 := hl2.node 0 _ rfl; have m1 := hl2.node 1 _ rfl; have m2 := hl2.node 2 _ rfl; have m3 := hl2.node 3 _ rfl; have n0 := hl2.box 0 _ rfl; have n1 := hl2.box 1 _ rfl; have n2 := hl2.box 2 _ rfl; have n3 := hl2.box 3 _ rfl; have n4 := hl2.box 4 _ rfl; have n5 := hl2.box 5 _ rfl; have n6 := hl2.box 6 _ rfl; have n7 := hl2.box 7 _ rfl; have n8 := hl2.box 8 _ rfl; have n9 := hl2.box 9 _ rfl; have n10 := hl2.box 10 _ rfl; simp only [Nat.zero_add] at m0 m1 m2 m3 n0 n1 n2 n3 n4 n5 n6 n7 n8 n9 n10; have hx5 := HXC.out _ hbw; clear hl2 hbw)
                | fail)
              all_goals
                go_wp2_with fail
                go_meet
                try dsimp only [zeroC] at *
                first
                  | (with_reducible exact PlcCut.late (X := w3) (d := zeroC) _ (SliceR.nil_ 0 (Nat.zero_le _) none) HB5.out _ rfl none (fun d' h => by cases h) _ rfl)
                  | (with_reducible exact PlcCut.early (X := w3) (d := zeroC) HZ5.out (SliceR.nil_ 0 (Nat.zero_le _) none) HB5.out none (fun d' h => by cases h) _ rfl rfl)
                  | (exact PlcCut.late (X := w3) (d := zeroC) _ (SliceR.nil_ 0 (Nat.zero_le _) none) HB5.out _ rfl none (fun d' h => by cases h) _ rfl)
                  | (exact PlcCut.early (X := w3) (d := zeroC) HZ5.out (SliceR.nil_ 0 (Nat.zero_le _) none) HB5.out none (fun d' h => by cases h) _ rfl rfl)
            case rest =>
              obtain ⟨g, A5, c5, d0, rfl, rfl, hd, hrc⟩ := hcut
              have HRC := hid hrc
              have HT5 := hid (bCl HT3.out hrc.below)
              clear hrc ne1 ne2 ne3 ne4 ne5 ne6 hx5
              clear m0 m1 m2 m3 n0 n1 n2 n3 n4 n5 n6 n7 n8 n9 n10 r0 r1 r2 r3 f0 f1 f2 f3
              obtain ⟨hl2, hrz, hfz, hbw, hgz⟩ := KB.out wc HT5.out
              have r0 := hrz 0 _ rfl
              have r1 := hrz 1 _ rfl
              have r2 := hrz 2 _ rfl
              have r3 := hrz 3 _ rfl
              have f0 := hfz 0
              have f1 := hfz 1
              have f2 := hfz 2
              have f3 := hfz 3
              simp only [Nat.zero_add] at r0 r1 r2 r3
              have HBW_wc := hid hbw
              clear hl2 hrz hfz hbw hgz
              go_wp2_with fail
              generalize hW : (((wc.setCell _ (.slice none 0 0)).setCell _ (.int .i64 0)).setCell _ (.int .i64 0)).setCell _ (.int .i64 0) = WE
              obtain ⟨⟨z0, z1, z2, z3⟩, rz, rb, ro, _⟩ := four r0 r1 r2 r3 _ _ _ _ hW.symm
              have HB' := hid (rb w.heap.size w (by omega) HBW_wc.out)
              have HRO := hid ro
              have HRZ := hid rz
              clear hW ro rb rz
              refine bodyPost_ret (v := .tuple #[.agg #[.slice none 0 0, .int .i64 0, .int .i64 0, .int .i64 0], .int .i64 8]) (by simp [results, Tryz.results14, go_sem, z0, z1, z2, z3]) rfl ?_
              have h := HR.out
              exact ⟨HB'.out, .slice none 0 0, by rw [h]; rfl, by rw [h]; exact SliceR.nil_ 0 (Nat.zero_le _) none⟩
          | some d =>
            have HR : Hid (r = (d, 0)) := by have h := HR0.out; rwa [if_neg (by simp), if_neg (by simp)] at h
            clear HR0
            obtain ⟨hl2, hrz, hfz, hbw, hgz⟩ := KB.out W0 (Below.refl _ _)
            have m0 := hl2.node 0 _ rfl
            have m1 := hl2.node 1 _ rfl
            have m2 := hl2.node 2 _ rfl
            have m3 := hl2.node 3 _ rfl
            have n0 := hl2.box 0 _ rfl
            have n1 := hl2.box 1 _ rfl
            have n2 := hl2.box 2 _ rfl
            have n3 := hl2.box 3 _ rfl
            have n4 := hl2.box 4 _ rfl
            have n5 := hl2.box 5 _ rfl
            have n6 := hl2.box 6 _ rfl
            have n7 := hl2.box 7 _ rfl
            have n8 := hl2.box 8 _ rfl
            have n9 := hl2.box 9 _ rfl
            have n10 := hl2.box 10 _ rfl
            have r0 := hrz 0 _ rfl
            have r1 := hrz 1 _ rfl
            have r2 := hrz 2 _ rfl
            have r3 := hrz 3 _ rfl
            have f0 := hfz 0
            have f1 := hfz 1
            have f2 := hfz 2
            have f3 := hfz 3
            simp only [Nat.zero_add] at m0 m1 m2 m3 n0 n1 n2 n3 n4 n5 n6 n7 n8 n9 n10 r0 r1 r2 r3
            have HBW_W0 := hid hbw
            clear hl2 hrz hfz hbw hgz
            go_enter Tryz.func14, Tryz.ntmps14
            go_wp2_with fail
            clear hW0
            refine (CV.out _ HBW_W0.out).mono ?_
            rintro e w1 ⟨rfl, hb1⟩
            have HT1 := hid hb1
            clear hb1
            clear m0 m1 m2 m3 n0 n1 n2 n3 n4 n5 n6 n7 n8 n9 n10 r0 r1 r2 r3 f0 f1 f2 f3
            obtain ⟨hl2, hrz, hfz, hbw, hgz⟩ := KB.out w1 HT1.out
            have m0 := hl2.node 0 _ rfl
            have m1 := hl2.node 1 _ rfl
            have m2 := hl2.node 2 _ rfl
            have m3 := hl2.node 3 _ rfl
            have n0 := hl2.box 0 _ rfl
            have n1 := hl2.box 1 _ rfl
            have n2 := hl2.box 2 _ rfl
            have n3 := hl2.box 3 _ rfl
            have n4 := hl2.box 4 _ rfl
            have n5 := hl2.box 5 _ rfl
            have n6 := hl2.box 6 _ rfl
            have n7 := hl2.box 7 _ rfl
            have n8 := hl2.box 8 _ rfl
            have n9 := hl2.box 9 _ rfl
            have n10 := hl2.box 10 _ rfl
            have r0 := hrz 0 _ rfl
            have r1 := hrz 1 _ rfl
            have r2 := hrz 2 _ rfl
            have r3 := hrz 3 _ rfl
            have f0 := hfz 0
            have f1 := hfz 1
            have f2 := hfz 2
            have f3 := hfz 3
            simp only [Nat.zero_add] at m0 m1 m2 m3 n0 n1 n2 n3 n4 n5 n6 n7 n8 n9 n10 r0 r1 r2 r3
            have HBW_w1 := hid hbw
            clear hl2 hrz hfz hbw hgz
            go_wp2_with fail
            refine (CW.out _ HBW_w1.out).mono ?_
            rintro e w2 ⟨rfl, hb2⟩
            have HT2 := hid (bCl HT1.out hb2)
            clear hb2
            clear m0 m1 m2 m3 n0 n1 n2 n3 n4 n5 n6 n7 n8 n9 n10 r0 r1 r2 r3 f0 f1 f2 f3
            obtain ⟨hl2, hrz, hfz, hbw, hgz⟩ := KB.out w2 HT2.out
            have m0 := hl2.node 0 _ rfl
            have m1 := hl2.node 1 _ rfl
            have m2 := hl2.node 2 _ rfl
            have m3 := hl2.node 3 _ rfl
            have n0 := hl2.box 0 _ rfl
            have n1 := hl2.box 1 _ rfl
            have n2 := hl2.box 2 _ rfl
            have n3 := hl2.box 3 _ rfl
            have n4 := hl2.box 4 _ rfl
            have n5 := hl2.box 5 _ rfl
            have n6 := hl2.box 6 _ rfl
            have n7 := hl2.box 7 _ rfl
            have n8 := hl2.box 8 _ rfl
            have n9 := hl2.box 9 _ rfl
            have n10 := hl2.box 10 _ rfl
            have r0 := hrz 0 _ rfl
            have r1 := hrz 1 _ rfl
            have r2 := hrz 2 _ rfl
            have r3 := hrz 3 _ rfl
            have f0 := hfz 0
            have f1 := hfz 1
            have f2 := hfz 2
            have f3 := hfz 3
            simp only [Nat.zero_add] at m0 m1 m2 m3 n0 n1 n2 n3 n4 n5 n6 n7 n8 n9 n10 r0 r1 r2 r3
            have HBW_w2 := hid hbw
            clear hl2 hrz hfz hbw hgz
            go_wp2_with fail
            refine (CP.out _ HBW_w2.out).mono ?_
            rintro e w3 ⟨rfl, hb3⟩
            have HT3 := hid (bCl HT2.out hb3)
            clear hb3
            clear m0 m1 m2 m3 n0 n1 n2 n3 n4 n5 n6 n7 n8 n9 n10 r0 r1 r2 r3 f0 f1 f2 f3
            obtain ⟨hl2, hrz, hfz, hbw, hgz⟩ := KB.out w3 HT3.out
            have m0 := hl2.node 0 _ rfl
            have m1 := hl2.node 1 _ rfl
            have m2 := hl2.node 2 _ rfl
            have m3 := hl2.node 3 _ rfl
            have n0 := hl2.box 0 _ rfl
            have n1 := hl2.box 1 _ rfl
            have n2 := hl2.box 2 _ rfl
            have n3 := hl2.box 3 _ rfl
            have n4 := hl2.box 4 _ rfl
            have n5 := hl2.box 5 _ rfl
            have n6 := hl2.box 6 _ rfl
            have n7 := hl2.box 7 _ rfl
            have n8 := hl2.box 8 _ rfl
            have n9 := hl2.box 9 _ rfl
            have n10 := hl2.box 10 _ rfl
            have r0 := hrz 0 _ rfl
            have r1 := hrz 1 _ rfl
            have r2 := hrz 2 _ rfl
            have r3 := hrz 3 _ rfl
            have f0 := hfz 0
            have f1 := hfz 1
            have f2 := hfz 2
            have f3 := hfz 3
            simp only [Nat.zero_add] at m0 m1 m2 m3 n0 n1 n2 n3 n4 n5 n6 n7 n8 n9 n10 r0 r1 r2 r3
            have HBW_w3 := hid hbw
            clear hl2 hrz hfz hbw hgz
            have HD1 : Hid (Below w.heap.size w w3.drew) := HBW_w3.out.drew
            have HD2 : Hid (Below w.heap.size w (w3.alloc (.cells #[.slice none 0 0, .int .i64 0, .int .i64 0, .int .i64 0] 36)).drew) := ((bNew w3 _).mono HBW_w3.out.size |> HBW_w3.out.trans).drew
            have HZL : Hid (w3.heap.size < (w3.alloc (.cells #[.slice none 0 0, .int .i64 0, .int .i64 0, .int .i64 0] 36)).drew.heap.size) := by show _ < (w3.alloc _).heap.size; simp
            have hx5 := HXC.out _ HBW_w3.out
            have hq5 : (q.length : Int) < ((q.length : Int) + 1) := by omega
            have hg1 := (KB.out w3 HT3.out).2.2.2.2
            have hgw : gp < w.heap.size := hgp
            have ne1 : ¬ (w.heap.size = w3.heap.size) := by omega
            have ne2 : ¬ (w3.heap.size = w.heap.size) := by omega
            have ne3 : ¬ (w.heap.size + 1 = w3.heap.size) := by omega
            have ne4 : ¬ (w3.heap.size = w.heap.size + 1) := by omega
            have ne5 : ¬ (gp = w3.heap.size) := by omega
            have ne6 : ¬ (w3.heap.size = gp) := by omega
            go_upto_region 6 with fail
            go_cut [9, 10] (fun p v wx => PlcCut w3 (some d) p v wx)
            case first =>
              clear r0 r1 r2 r3 f0 f1 f2 f3
              go_wp2_with fail
              go_region_held3 (fun w' => w'.cell? ⟨w.heap.size, 0, none⟩ = some (.int .i64 t.kind) ∧ w'.cell? ⟨w.heap.size, 1, none⟩ = some (.string t.text) ∧ w'.cell? ⟨w.heap.size, 2, none⟩ = some (.int .i64 t.cols) ∧ w'.cell? ⟨w.heap.size, 3, none⟩ = some (.slice A t.kids.length cap) ∧ w'.cell? ⟨w.heap.size + 1, 0, none⟩ = some (.int .i64 b.f.kind) ∧ w'.cell? ⟨w.heap.size + 1, 1, none⟩ = some (.string b.f.name) ∧ w'.cell? ⟨w.heap.size + 1, 2, none⟩ = some (.int .i64 b.f.size) ∧ w'.cell? ⟨w.heap.size + 1, 3, none⟩ = some (.int .i64 b.f.w) ∧ w'.cell? ⟨w.heap.size + 1, 4, none⟩ = some (.int .i64 b.f.h) ∧ w'.cell? ⟨w.heap.size + 1, 5, none⟩ = some (.int .i64 b.f.d) ∧ w'.cell? ⟨w.heap.size + 1, 6, none⟩ = some (.int .i64 b.f.x) ∧ w'.cell? ⟨w.heap.size + 1, 7, none⟩ = some (.int .i64 b.f.y) ∧ w'.cell? ⟨w.heap.size + 1, 8, none⟩ = some (.slice Ak b.kids.length ck) ∧ w'.cell? ⟨w.heap.size + 1, 9, none⟩ = some (.int .i64 b.f.of_) ∧ w'.cell? ⟨w.heap.size + 1, 10, none⟩ = some (.slice As b.f.src.length cs) ∧ w'.cell? ⟨gp, op + q.length, none⟩ = some (.int .i64 x)) (go_keep) (first
                | (go_at_call 43; (with_reducible refine (CRX.out _ HD1.out).mono ?_); rintro e w5 ⟨hb5, (⟨ho, _⟩ | ⟨d', v5, ho, rfl, hi5⟩)⟩; (case inl => cases ho); cases ho; obtain ⟨A5, c5, rfl⟩ := hi5.form; have HI5 := hid hi5; have HB5 : Hid (Below w3.heap.size w3 w5) := bDr hb5; clear hb5 hi5 ; obtain ⟨hl2, _, _, hbw, _⟩ := KB.out w5 (bCl HT3.out HB5.out); have m0 := hl2.node 0 _ rfl; have m1 := hl2.node 1 _ rfl; have m2 := hl2.node 2 _ rfl; have m3 := hl2.node 3 _ rfl; have n0 := hl2.box 0 _ rfl; have n1 := hl2.box 1 _ rfl; have n2 := hl2.box 2 _ rfl; have n3 := hl2.box 3 _ rfl; have n4 := hl2.box 4 _ rfl; have n5 := hl2.box 5 _ rfl; have n6 := hl2.box 6 _ rfl; have n7 := hl2.box 7 _ rfl; have n8 := hl2.box 8 _ rfl; have n9 := hl2.box 9 _ rfl; have n10 := hl2.box 10 _ rfl; simp only [Nat.zero_add] at m0 m1 m2 m3 n0 n1 n2 n3 n4 n5 n6 n7 n8 n9 n10; have hx5 := HXC.out _ hbw; clear hl2 hbw)
                | (go_at_call 43; (with_reducible refine (CRX.out _ HD2.out).mono ?_); rintro e w5 ⟨hb5, (⟨ho, _⟩ | ⟨d', v5, ho, rfl, hi5⟩)⟩; (case inl => cases ho); cases ho; obtain ⟨A5, c5, rfl⟩ := hi5.form; have HI5 : Hid (IntsR w5 (fun k => w3.heap.size < k ∧ k < w5.heap.size) d.pos (.slice A5 d.pos.length c5)) := hi5.keep (fun _ _ => rfl) (fun k hk => ⟨Nat.lt_of_lt_of_le HZL.out hk.1, hk.2⟩); have HB5 : Hid (Below w3.heap.size w3 w5) := bCl (bNew w3 _).drew hb5; have HZ5 : Hid (HasObj w5 w3.heap.size (.cells #[.slice none 0 0, .int .i64 0, .int .i64 0, .int .i64 0] 36)) := ((HasObj.at0 w3 _).dr).below hb5; obtain ⟨z0, z1, z2, z3, y0, y1, y2, y3⟩ := zfacts HZ5.out; clear hb5 hi5 ; obtain ⟨hl2, _, _, hbw, _⟩ := KB.out w5 (bCl HT3.out HB5.out); have m0 := hl2.node 0 _ rfl; have m1 := hl2.node 1 _ rfl; have m2 := hl2.node 2 _ rfl; have m3 := hl2.node 3 _ rfl; have n0 := hl2.box 0 _ rfl; have n1 := hl2.box 1 _ rfl; have n2 := hl2.box 2 _ rfl; have n3 := hl2.box 3 _ rfl; have n4 := hl2.box 4 _ rfl; have n5 := hl2.box 5 _ rfl; have n6 := hl2.box 6 _ rfl; have n7 := hl2.box 7 _ rfl; have n8 := hl2.box 8 _ rfl; have n9 := hl2.box 9 _ rfl; have n10 := hl2.box 10 _ rfl; simp only [Nat.zero_add] at m0 m1 m2 m3 n0 n1 n2 n3 n4 n5 n6 n7 n8 n9 n10; have hx5 := HXC.out _ hbw; clear hl2 hbw)
                | fail)
              all_goals
                go_wp2_with fail
                go_meet
                try dsimp only [zeroC] at *
                first
                  | (with_reducible exact PlcCut.late (X := w3) (d := d) _ HI5.out HB5.out _ rfl (some d) (fun d' h => Option.some.inj h) _ rfl)
                  | (with_reducible exact PlcCut.early (X := w3) (d := d) HZ5.out HI5.out HB5.out (some d) (fun d' h => Option.some.inj h) _ rfl rfl)
                  | (exact PlcCut.late (X := w3) (d := d) _ HI5.out HB5.out _ rfl (some d) (fun d' h => Option.some.inj h) _ rfl)
                  | (exact PlcCut.early (X := w3) (d := d) HZ5.out HI5.out HB5.out (some d) (fun d' h => Option.some.inj h) _ rfl rfl)
            case rest =>
              obtain ⟨g, A5, c5, d0, rfl, rfl, hd, hrc⟩ := hcut
              have HRC := hid hrc
              have HT5 := hid (bCl HT3.out hrc.below)
              clear hrc ne1 ne2 ne3 ne4 ne5 ne6 hx5
              clear m0 m1 m2 m3 n0 n1 n2 n3 n4 n5 n6 n7 n8 n9 n10 r0 r1 r2 r3 f0 f1 f2 f3
              obtain ⟨hl2, hrz, hfz, hbw, hgz⟩ := KB.out wc HT5.out
              have r0 := hrz 0 _ rfl
              have r1 := hrz 1 _ rfl
              have r2 := hrz 2 _ rfl
              have r3 := hrz 3 _ rfl
              have f0 := hfz 0
              have f1 := hfz 1
              have f2 := hfz 2
              have f3 := hfz 3
              simp only [Nat.zero_add] at r0 r1 r2 r3
              have HBW_wc := hid hbw
              clear hl2 hrz hfz hbw hgz
              obtain rfl := hd d rfl
              have u0 := HRC.out.box 0 _ rfl
              have u1 := HRC.out.box 1 _ rfl
              have u2 := HRC.out.box 2 _ rfl
              have u3 := HRC.out.box 3 _ rfl
              simp only [Nat.zero_add] at u0 u1 u2 u3
              go_wp2_with fail
              generalize hW : (((wc.setCell _ (.slice A5 d0.pos.length c5)).setCell _ (.int .i64 d0.x)).setCell _ (.int .i64 d0.top)).setCell _ (.int .i64 d0.bottom) = WE
              obtain ⟨⟨z0, z1, z2, z3⟩, rz, rb, ro, _⟩ := four r0 r1 r2 r3 _ _ _ _ hW.symm
              have HB' := hid (rb w.heap.size w (by omega) HBW_wc.out)
              have HRO := hid ro
              have HRZ := hid rz
              clear hW ro rb rz
              refine bodyPost_ret (v := .tuple #[.agg #[.slice A5 d0.pos.length c5, .int .i64 d0.x, .int .i64 d0.top, .int .i64 d0.bottom], .int .i64 0]) (by simp [results, Tryz.results14, go_sem, z0, z1, z2, z3]) rfl ?_
              have h := HR.out
              subst h
              have hg2 := hg1
              exact ⟨HB'.out, _, rfl, HRC.out.ints.keep (fun p hp => HRO.out p (Nat.ne_of_gt (Nat.lt_of_lt_of_le hg1 hp.1))) (fun k hk => ⟨by have := hk.1; omega, by rw [HRZ.out]; exact hk.2.1⟩)⟩
        rw [← HPL.out] at goal
        exact goal
end Go.Proofs.YtmahiejfniaahaaGreatDoor
