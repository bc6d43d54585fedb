/- ref28.Find. Written by wip/genfnd.py. -/
import Derived.Test.YtmahiejfniaahaaGreatDoorHC
import Derived.Test.YtmahiejfniaahaaGreatDoorGN
import Derived.Test.YtmahiejfniaahaaGreatDoorGA
import Derived.BigRegion
set_option linter.unusedVariables false
set_option linter.unusedSimpArgs false
set_option maxRecDepth 100000
namespace Go.Proofs.YtmahiejfniaahaaGreatDoor
open Go.RowKit
def FndRes (S : Nat → Prop) (w : World) (o : Option (Bx × Int × Int)) (e : Ending) (w' : World) : Prop := Below w.heap.size w w' ∧
  ((o = none ∧ e = .returned (.tuple #[.agg #[.int .i64 0, .string ⟨#[]⟩, .int .i64 0, .int .i64 0, .int .i64 0, .int .i64 0, .int .i64 0, .int .i64 0, .slice none 0 0, .int .i64 0, .slice none 0 0], .int .i64 0, .int .i64 0, .bool false])) ∨
   ∃ r x y A c B d, o = some (r, x, y) ∧ e = .returned (.tuple #[.agg (boxC r.f (.slice A r.kids.length c) (.slice B r.f.src.length d)), .int .i64 x, .int .i64 y, .bool true]) ∧ r.f.Ok ∧ IntsR w S r.f.src (.slice B r.f.src.length d) ∧ BoxesS w S r.kids (.slice A r.kids.length c))
theorem finds_drop (q : Int) (p : List Int) (ks : List Bx) {k : Nat} (hk : k < ks.length) : findsB q p (ks.drop k) = match findB q p ks[k] with | some r => some (r.1, r.2.1 + ks[k].f.x, r.2.2 + ks[k].f.y) | none => findsB q p (ks.drop (k + 1)) := by
  rw [List.drop_eq_getElem_cons hk, findsB]
  cases findB q p ks[k] <;> rfl
set_option maxHeartbeats 8000000 in
theorem find28_any (q : Int) (p : List Int) (Ap : Option Addr) (cp : Nat) (b : Bx) : ∀ (Ak As : Option Addr) (ck cs : Nat) (w : World) (S : Nat → Prop), (∀ k, S k → k < w.heap.size) → b.f.Ok → IntsR w S b.f.src (.slice As b.f.src.length cs) → BoxesS w S b.kids (.slice Ak b.kids.length ck) → IntsR w (Lt w.heap.size) p (.slice Ap p.length cp) → properB b = true → cntB b ≤ 1000000 →
    Calls Tryz.prog 85 #[.agg (boxC b.f (.slice Ak b.kids.length ck) (.slice As b.f.src.length cs)), .int .i64 q, .slice Ap p.length cp] w (FndRes S w (findB q p b)) := by
  induction b using Bx.ind with
  | h b ih =>
  intro Ak As ck cs w S hS hok hsrc hkids hp hprop hcnt
  obtain ⟨f, ks⟩ := b
  simp only [Bx.f, Bx.kids] at *
  generalize hW0 : (w.alloc (Obj.cells (boxC f (.slice Ak ks.length ck) (.slice As f.src.length cs)) 28)).alloc (Obj.cells #[.int .i64 0, .string ⟨#[]⟩, .int .i64 0, .int .i64 0, .int .i64 0, .int .i64 0, .int .i64 0, .int .i64 0, .slice none 0 0, .int .i64 0, .slice none 0 0] 28) = W0
  have KB : Hid (∀ W, Below W0.heap.size W0 W → BoxL W w.heap.size 0 (boxL f (.slice Ak ks.length ck) (.slice As f.src.length cs)) ∧ BoxL W (w.heap.size + 1) 0 [.int .i64 0, .string ⟨#[]⟩, .int .i64 0, .int .i64 0, .int .i64 0, .int .i64 0, .int .i64 0, .int .i64 0, .slice none 0 0, .int .i64 0, .slice none 0 0] ∧ FreeB W (w.heap.size + 1) ∧ Below w.heap.size w W ∧ w.heap.size + 1 < W.heap.size) := fun W hW => by
    have hz0 : W0.heap.size = w.heap.size + 2 := by rw [← hW0]; simp
    have h3 : Below w.heap.size w W0 := by rw [← hW0]; exact bAl (bNew _ _) _
    have h1 : BoxL W0 w.heap.size 0 (boxL f (.slice Ak ks.length ck) (.slice As f.src.length cs)) := by rw [← hW0]; exact (BoxL.new _ _ _ _ rfl _ rfl).below (bNew _ _) (by simp)
    have h4 : BoxL W0 (w.heap.size + 1) 0 [.int .i64 0, .string ⟨#[]⟩, .int .i64 0, .int .i64 0, .int .i64 0, .int .i64 0, .int .i64 0, .int .i64 0, .slice none 0 0, .int .i64 0, .slice none 0 0] ∧ FreeB W0 (w.heap.size + 1) := by rw [← hW0]; exact ⟨BoxL.new _ _ _ _ (by simp) _ rfl, FreeB.new _ _ _ _ (by simp)⟩
    exact ⟨h1.below hW (by omega), h4.1.below hW (by omega), h4.2.below hW (by omega), h3.trans (hW.mono h3.size), by have := hW.size; omega⟩
  have HSM : Hid (∀ n W, Below w.heap.size w W → Calls Tryz.prog 25 #[.slice As f.src.length cs, .slice Ap p.length cp] (W.drewN n) fun e w' => e = .returned (.bool (decide (f.src = p))) ∧ ∃ m, w' = (W.drewN n).drewN m) := fun n W hW => sameI_q f.src p (W.drewN n) S (Lt w.heap.size) As Ap cs cp (hsrc.keep (fun p hp => hW.cell (hS _ hp)) (fun _ h => h)) (hp.keep (fun p hp => hW.cell hp) (fun _ h => h))
  have HOKF := hid hok
  have HRD : Hid (IntsR w S f.src (.slice As f.src.length cs) ∧ BoxesS w S ks (.slice Ak ks.length ck)) := ⟨hsrc, hkids⟩
  by_cases hm : f.of_ = q ∧ f.src = p
  · have HF : Hid (findB q p (.mk f ks) = some (.mk f ks, 0, 0)) := by show _ = _; rw [findB, if_pos hm]
    obtain ⟨hm1, hm2⟩ := hm
    have i0 : (f.of_ == q) = true := by simp [hm1]
    have HSM1 : Hid (∀ W, Below w.heap.size w W → Calls Tryz.prog 25 #[.slice As f.src.length cs, .slice Ap p.length cp] W fun e w' => e = .returned (.bool true) ∧ ∃ m, w' = W.drewN m) := fun W hW => by
      have h := HSM.out 0 W hW
      rwa [decide_eq_true hm2] at h
    clear hS hok hsrc hkids hp hprop hcnt ih hm1 hm2
    obtain ⟨hbx, hrz, hfz, hbw, hgz⟩ := KB.out W0 (Below.refl _ _)
    have n0 := hbx 0 _ rfl
    have n1 := hbx 1 _ rfl
    have n2 := hbx 2 _ rfl
    have n3 := hbx 3 _ rfl
    have n4 := hbx 4 _ rfl
    have n5 := hbx 5 _ rfl
    have n6 := hbx 6 _ rfl
    have n7 := hbx 7 _ rfl
    have n8 := hbx 8 _ rfl
    have n9 := hbx 9 _ rfl
    have n10 := hbx 10 _ rfl
    have r0 := hrz 0 _ rfl
    have r1 := hrz 1 _ rfl
    have r2 := hrz 2 _ rfl
    have r3 := hrz 3 _ rfl
    have r4 := hrz 4 _ rfl
    have r5 := hrz 5 _ rfl
    have r6 := hrz 6 _ rfl
    have r7 := hrz 7 _ rfl
    have r8 := hrz 8 _ rfl
    have r9 := hrz 9 _ rfl
    have r10 := hrz 10 _ rfl
    have f0 := hfz 0
    have f1 := hfz 1
    have f2 := hfz 2
    have f3 := hfz 3
    have f4 := hfz 4
    have f5 := hfz 5
    have f6 := hfz 6
    have f7 := hfz 7
    have f8 := hfz 8
    have f9 := hfz 9
    have f10 := hfz 10
    simp only [Nat.zero_add] at n0 n1 n2 n3 n4 n5 n6 n7 n8 n9 n10 r0 r1 r2 r3 r4 r5 r6 r7 r8 r9 r10
    have HBW_W0 := hid hbw
    clear hbx hrz hfz hbw hgz
    go_enter Tryz.func85, Tryz.ntmps85
    go_wp2_with fail
    clear hW0
    refine (HSM1.out _ HBW_W0.out).mono ?_
    rintro e w1 ⟨rfl, dn1, rfl⟩
    go_wp2_with fail
    have HT1 : Hid (Below W0.heap.size W0 (W0.drewN dn1)) := bDn (Below.refl _ _) dn1
    obtain ⟨w1, hw1⟩ : ∃ w1, w1 = W0.drewN dn1 := ⟨_, rfl⟩
    try rw [← hw1]
    rw [← hw1] at HT1
    have HBW_w1 := hid (KB.out w1 HT1.out).2.2.2.1
    generalize hW : ((((((((((w1.setCell _ (.int .i64 f.kind)).setCell _ (.string f.name)).setCell _ (.int .i64 f.size)).setCell _ (.int .i64 f.w)).setCell _ (.int .i64 f.h)).setCell _ (.int .i64 f.d)).setCell _ (.int .i64 f.x)).setCell _ (.int .i64 f.y)).setCell _ (.slice Ak ks.length ck)).setCell _ (.int .i64 f.of_)).setCell _ (.slice As f.src.length cs) = WE
    have hs := setL [.int .i64 f.kind, .string f.name, .int .i64 f.size, .int .i64 f.w, .int .i64 f.h, .int .i64 f.d, .int .i64 f.x, .int .i64 f.y, .slice Ak ks.length ck, .int .i64 f.of_, .slice As f.src.length cs] w1 (w.heap.size + 1) 0 (fun j hj => (KB.out w1 HT1.out).2.1.has j (by simpa using hj))
    rw [show setCells w1 (w.heap.size + 1) 0 [.int .i64 f.kind, .string f.name, .int .i64 f.size, .int .i64 f.w, .int .i64 f.h, .int .i64 f.d, .int .i64 f.x, .int .i64 f.y, .slice Ak ks.length ck, .int .i64 f.of_, .slice As f.src.length cs] = WE from hW] at hs
    have hz := hs.at_
    have z0 := hz 0 _ rfl
    have z1 := hz 1 _ rfl
    have z2 := hz 2 _ rfl
    have z3 := hz 3 _ rfl
    have z4 := hz 4 _ rfl
    have z5 := hz 5 _ rfl
    have z6 := hz 6 _ rfl
    have z7 := hz 7 _ rfl
    have z8 := hz 8 _ rfl
    have z9 := hz 9 _ rfl
    have z10 := hz 10 _ rfl
    simp only [Nat.zero_add] at z0 z1 z2 z3 z4 z5 z6 z7 z8 z9 z10
    have HB' := hid (hs.below w.heap.size w (by omega) HBW_w1.out)
    clear hW hs hz
    refine bodyPost_ret (v := .tuple #[.agg #[.int .i64 f.kind, .string f.name, .int .i64 f.size, .int .i64 f.w, .int .i64 f.h, .int .i64 f.d, .int .i64 f.x, .int .i64 f.y, .slice Ak ks.length ck, .int .i64 f.of_, .slice As f.src.length cs], .int .i64 0, .int .i64 0, .bool true]) (by simp [results, Tryz.results85, go_sem, z0, z1, z2, z3, z4, z5, z6, z7, z8, z9, z10]) rfl ?_
    exact ⟨HB'.out, .inr ⟨_, 0, 0, _, _, _, _, HF.out, rfl, HOKF.out, HRD.out.1, HRD.out.2⟩⟩
  · have HNF : Hid (findB q p (.mk f ks) = findsB q p (ks.drop 0)) := by show _ = _; rw [findB, if_neg hm]; rfl
    have hkl := hkids.lens
    have hkl2 : ks.length ≤ 9223372036854775807 := by unfold maxLen at hkl; omega
    have HKID : Hid (∀ k (hk : k < ks.length), ∃ gk ok A' cap' vs, Ak = some ⟨gk, ok, none⟩ ∧ S gk ∧ Box11 w gk (ok + k * 11) ks[k].f (.slice A' ks[k].kids.length cap') vs ∧ ks[k].f.Ok ∧ IntsR w S ks[k].f.src vs ∧ BoxesS w S ks[k].kids (.slice A' ks[k].kids.length cap')) := fun k hk => by
      obtain ⟨_, _, rs, hq', _, _, hrd, hls⟩ := hkids
      cases hq'
      exact boxes_at hrd hls hk
    have HSL := hid hS
    have hps := (proper_lens hprop).2
    have HSUMS : Hid (∀ k (hk : k < ks.length), ∀ ff, findB q p ks[k] = some ff → -2305843009213693952 ≤ ff.2.1 + ks[k].f.x ∧ ff.2.1 + ks[k].f.x ≤ 2305843009213693952 ∧ -2305843009213693952 ≤ ff.2.2 + ks[k].f.y ∧ ff.2.2 + ks[k].f.y ≤ 2305843009213693952) := fun k hk ff hff => by
      have hpk := props_mem ks hps _ (List.getElem_mem hk)
      obtain ⟨_, _, _, h4, h5⟩ := find_bd q p ks[k] hpk ff hff
      have hl := lens_all (proper_lens hpk).1
      have h1 := cntsB_take ks hk
      have h2 := cntsB_le ks (k + 1)
      rw [cntB] at hcnt
      omega
    have HIH : Hid (∀ k (hk : k < ks.length), ∀ (Ak As : Option Addr) (ck cs : Nat) (W : World), Below w.heap.size w W → ks[k].f.Ok → IntsR w S ks[k].f.src (.slice As ks[k].f.src.length cs) → BoxesS w S ks[k].kids (.slice Ak ks[k].kids.length ck) → Calls Tryz.prog 85 #[.agg (boxC ks[k].f (.slice Ak ks[k].kids.length ck) (.slice As ks[k].f.src.length cs)), .int .i64 q, .slice Ap p.length cp] W (FndRes S W (findB q p ks[k]))) := fun k hk Ak As ck cs W hW h1 h2 h3 => by
      have h4 := cntsB_take ks hk
      have h5 := cntsB_le ks (k + 1)
      rw [cntB] at hcnt
      exact ih _ (List.getElem_mem hk) Ak As ck cs W S (fun k hk => Nat.lt_of_lt_of_le (hS k hk) hW.size) h1 (h2.keep (fun p hp => hW.cell (hS _ hp)) (fun _ h => h)) (h3.keep (fun p hp => hW.cell (hS _ hp)) (fun _ h => h)) (hp.below hW hW.size) (props_mem ks hps _ (List.getElem_mem hk)) (by omega)
    have HGK : Hid (∀ gk (k : Nat), S gk → gk < w.heap.size) := fun gk _ h => hS gk h
    have HSMF : Hid (f.of_ = q → ∀ W, Below w.heap.size w W → Calls Tryz.prog 25 #[.slice As f.src.length cs, .slice Ap p.length cp] W fun e w' => e = .returned (.bool false) ∧ ∃ m, w' = W.drewN m) := fun hof W hW => by
      have h := HSM.out 0 W hW
      rwa [decide_eq_false (fun h => hm ⟨hof, h⟩)] at h
    clear hS hok hsrc hkids hp hprop hcnt ih hm HSM hkl hps
    obtain ⟨hbx, hrz, hfz, hbw, hgz⟩ := KB.out W0 (Below.refl _ _)
    have n0 := hbx 0 _ rfl
    have n1 := hbx 1 _ rfl
    have n2 := hbx 2 _ rfl
    have n3 := hbx 3 _ rfl
    have n4 := hbx 4 _ rfl
    have n5 := hbx 5 _ rfl
    have n6 := hbx 6 _ rfl
    have n7 := hbx 7 _ rfl
    have n8 := hbx 8 _ rfl
    have n9 := hbx 9 _ rfl
    have n10 := hbx 10 _ rfl
    have r0 := hrz 0 _ rfl
    have r1 := hrz 1 _ rfl
    have r2 := hrz 2 _ rfl
    have r3 := hrz 3 _ rfl
    have r4 := hrz 4 _ rfl
    have r5 := hrz 5 _ rfl
    have r6 := hrz 6 _ rfl
    have r7 := hrz 7 _ rfl
    have r8 := hrz 8 _ rfl
    have r9 := hrz 9 _ rfl
    have r10 := hrz 10 _ rfl
    have f0 := hfz 0
    have f1 := hfz 1
    have f2 := hfz 2
    have f3 := hfz 3
    have f4 := hfz 4
    have f5 := hfz 5
    have f6 := hfz 6
    have f7 := hfz 7
    have f8 := hfz 8
    have f9 := hfz 9
    have f10 := hfz 10
    simp only [Nat.zero_add] at n0 n1 n2 n3 n4 n5 n6 n7 n8 n9 n10 r0 r1 r2 r3 r4 r5 r6 r7 r8 r9 r10
    have HBW_W0 := hid hbw
    clear hbx hrz hfz hbw hgz
    go_enter Tryz.func85, Tryz.ntmps85
    go_upto_region 1 with fail
    clear hW0
    go_cut [24] (fun v wx => v = .bool false ∧ Below W0.heap.size W0 wx)
    case first =>
      by_cases hof : f.of_ = q
      · have i0 : (f.of_ == q) = true := by simp [hof]
        have HSM1 := hid (HSMF.out hof)
        clear hof
        go_wp2_with fail
        refine (HSM1.out _ HBW_W0.out).mono ?_
        rintro e w1 ⟨rfl, dn1, rfl⟩
        go_wp2_with fail
        go_meet
        exact ⟨rfl, bDn (Below.refl _ _) _⟩
      · have i0 : (f.of_ == q) = false := by simp [hof]
        clear hof
        go_wp2_with fail
        go_meet
        exact ⟨rfl, Below.refl _ _⟩
    case rest =>
      obtain ⟨rfl, hbs⟩ := hcut
      have HTS := hid hbs
      clear hbs
      clear n0 n1 n2 n3 n4 n5 n6 n7 n8 n9 n10 r0 r1 r2 r3 r4 r5 r6 r7 r8 r9 r10 f0 f1 f2 f3 f4 f5 f6 f7 f8 f9 f10
      have HT := HTS
      go_wp2_with fail
      go_loopw [10] (fun i wr => Below W0.heap.size W0 wr ∧ ∃ k : Nat, k ≤ ks.length ∧ i = .int .i64 k ∧ findB q p (.mk f ks) = findsB q p (ks.drop k)) (fun i _ => ks.length - (intOf i).toNat)
      case atStart => exact ⟨HTS.out, 0, Nat.zero_le _, rfl, HNF.out⟩
      case round =>
        obtain ⟨hb, k, hk, rfl, hrest⟩ := hrel
        have HTR := hid hb
        have HR := hid hrest
        clear hb hrest
        obtain ⟨hbx, hrz, hfz, hbw, hgz⟩ := KB.out wr HTR.out
        have n0 := hbx 0 _ rfl
        have n1 := hbx 1 _ rfl
        have n2 := hbx 2 _ rfl
        have n3 := hbx 3 _ rfl
        have n4 := hbx 4 _ rfl
        have n5 := hbx 5 _ rfl
        have n6 := hbx 6 _ rfl
        have n7 := hbx 7 _ rfl
        have n8 := hbx 8 _ rfl
        have n9 := hbx 9 _ rfl
        have n10 := hbx 10 _ rfl
        have r0 := hrz 0 _ rfl
        have r1 := hrz 1 _ rfl
        have r2 := hrz 2 _ rfl
        have r3 := hrz 3 _ rfl
        have r4 := hrz 4 _ rfl
        have r5 := hrz 5 _ rfl
        have r6 := hrz 6 _ rfl
        have r7 := hrz 7 _ rfl
        have r8 := hrz 8 _ rfl
        have r9 := hrz 9 _ rfl
        have r10 := hrz 10 _ rfl
        have f0 := hfz 0
        have f1 := hfz 1
        have f2 := hfz 2
        have f3 := hfz 3
        have f4 := hfz 4
        have f5 := hfz 5
        have f6 := hfz 6
        have f7 := hfz 7
        have f8 := hfz 8
        have f9 := hfz 9
        have f10 := hfz 10
        simp only [Nat.zero_add] at n0 n1 n2 n3 n4 n5 n6 n7 n8 n9 n10 r0 r1 r2 r3 r4 r5 r6 r7 r8 r9 r10
        have HBW_wr := hid hbw
        clear hbx hrz hfz hbw hgz
        rcases Nat.lt_or_ge k ks.length with hlt | hge
        · obtain ⟨gk, ok, Ak', ck', vs', hAk, hgk, h11w, hokk, hsk, hkk⟩ := HKID.out k hlt
          subst hAk
          obtain ⟨Bk, ckk, rfl⟩ := hsk.form
          have hbw := HBW_wr.out
          have hgl := HSL.out gk hgk
          obtain ⟨c0, c1, c2, c3, c4, c5, c6, c7, c8, c9, c10⟩ := h11w.keep (fun j => hbw.cell (p := ⟨gk, j, none⟩) hgl)
          have CI : Hid (Calls Tryz.prog 85 #[.agg (boxC ks[k].f (.slice Ak' ks[k].kids.length ck') (.slice Bk ks[k].f.src.length ckk)), .int .i64 q, .slice Ap p.length cp] wr (FndRes S wr (findB q p ks[k]))) := HIH.out k hlt Ak' Bk ck' ckk wr hbw hokk hsk hkk
          have HD := hid (finds_drop q p ks hlt)
          have HKX : Hid (∀ W, Below wr.heap.size wr W → W.cell? ⟨gk, ok + k * 11 + 6, none⟩ = some (.int .i64 ks[k].f.x) ∧ W.cell? ⟨gk, ok + k * 11 + 7, none⟩ = some (.int .i64 ks[k].f.y)) := fun W hW => by
            have h := hbw.trans (hW.mono hbw.size)
            exact ⟨(h.cell (p := ⟨gk, ok + k * 11 + 6, none⟩) hgl).trans h11w.c6, (h.cell (p := ⟨gk, ok + k * 11 + 7, none⟩) hgl).trans h11w.c7⟩
          have HSUM := hid (HSUMS.out k hlt)
          have i5 : decide ((k : Int) < (ks.length : Int)) = true := by rw [decide_eq_true_eq]; omega
          have i6 : (0 : Int) ≤ (k : Int) := by omega
          have i7 : (k : Int) < (ks.length : Int) := by omega
          have HGL := hid hgl
          clear hbw hgl h11w hokk hsk hkk hgk
          generalize ks[k] = kd at *
          obtain ⟨kf, kks⟩ := kd
          simp only [Bx.f, Bx.kids] at *
          cases hfk : findB q p (.mk kf kks) with
          | none =>
            rw [hfk] at CI HD
            clear hfk HSUM
            go_wp2_with fail
            refine CI.out.mono ?_
            rintro e w4 ⟨hb4, ⟨_, rfl⟩ | ⟨_, _, _, _, _, _, _, h, _⟩⟩
            case inr => cases h
            have HT4 := hid (bCl HTR.out hb4)
            clear hb4
            clear n0 n1 n2 n3 n4 n5 n6 n7 n8 n9 n10 r0 r1 r2 r3 r4 r5 r6 r7 r8 r9 r10 f0 f1 f2 f3 f4 f5 f6 f7 f8 f9 f10
            clear c0 c1 c2 c3 c4 c5 c6 c7 c8 c9 c10
            go_wp2_with fail
            go_roundw
            case rel => exact ⟨bAl HT4.out _, k + 1, by omega, by go_num, by rw [HR.out, HD.out]⟩
            case measure => simp [intOf]; omega
          | some ff =>
            rw [hfk] at CI HD
            obtain ⟨s1, s2, s3, s4⟩ := HSUM.out ff hfk
            obtain ⟨r, lx, ly⟩ := ff
            simp only at s1 s2 s3 s4 HD
            have v1 : IntKind.i64.wrap (lx + kf.x) = lx + kf.x := IntWalk.i64_in _ (by omega)
            have v2 : IntKind.i64.wrap (ly + kf.y) = ly + kf.y := IntWalk.i64_in _ (by omega)
            have HFF : Hid (findB q p (.mk f ks) = some (r, lx + kf.x, ly + kf.y)) := by show _ = _; rw [HR.out, HD.out]
            clear hfk HSUM s1 s2 s3 s4
            go_wp2_with fail
            refine CI.out.mono ?_
            rintro e w4 ⟨hb4, ⟨h, _⟩ | ⟨r', x', y', Ar, cr, Bs, cs', h, rfl, hrok, hrs, hrk⟩⟩
            case inl => cases h
            cases h
            have HT4 := hid (bCl HTR.out hb4)
            have HB4 := hid hb4
            have HRR : Hid (r.f.Ok ∧ IntsR w S r.f.src (.slice Bs r.f.src.length cs') ∧ BoxesS w S r.kids (.slice Ar r.kids.length cr)) := by
              have hbw := HBW_wr.out
              exact ⟨hrok, hrs.keep (fun p hp => (hbw.cell (HSL.out _ hp)).symm) (fun _ h => h), hrk.keep (fun p hp => (hbw.cell (HSL.out _ hp)).symm) (fun _ h => h)⟩
            clear hb4 hrok hrs hrk
            clear n0 n1 n2 n3 n4 n5 n6 n7 n8 n9 n10 r0 r1 r2 r3 r4 r5 r6 r7 r8 r9 r10 f0 f1 f2 f3 f4 f5 f6 f7 f8 f9 f10
            clear c0 c1 c2 c3 c4 c5 c6 c7 c8 c9 c10
            go_upto_region 7 with fail
            obtain ⟨w5, hW5⟩ : ∃ W, w4.alloc (.cells #[.int .i64 r.f.kind, .string r.f.name, .int .i64 r.f.size, .int .i64 r.f.w, .int .i64 r.f.h, .int .i64 r.f.d, .int .i64 r.f.x, .int .i64 r.f.y, .slice Ar r.kids.length cr, .int .i64 r.f.of_, .slice Bs r.f.src.length cs'] 28) = W := ⟨_, rfl⟩
            have hx5 : BoxL w5 w4.heap.size 0 [.int .i64 r.f.kind, .string r.f.name, .int .i64 r.f.size, .int .i64 r.f.w, .int .i64 r.f.h, .int .i64 r.f.d, .int .i64 r.f.x, .int .i64 r.f.y, .slice Ar r.kids.length cr, .int .i64 r.f.of_, .slice Bs r.f.src.length cs'] := by rw [← hW5]; exact BoxL.new _ _ _ _ rfl _ rfl
            have hb5 : Below w4.heap.size w4 w5 := by rw [← hW5]; exact bNew _ _
            have HT5 := hid (bCl HT4.out hb5)
            obtain ⟨c6, c7⟩ := HKX.out w5 (bCl HB4.out hb5)
            have ne1 : ¬ (w4.heap.size = w.heap.size + 1) := by have h1 := (KB.out w4 HT4.out).2.2.2.2; omega
            have ne2 : ¬ (w.heap.size + 1 = w4.heap.size) := by have h1 := (KB.out w4 HT4.out).2.2.2.2; omega
            have ne3 : ¬ (gk = w.heap.size + 1) := by have h1 := HGL.out; omega
            rw [hW5]
            clear hW5 hb5
            have x0 := hx5 0 _ rfl
            have x1 := hx5 1 _ rfl
            have x2 := hx5 2 _ rfl
            have x3 := hx5 3 _ rfl
            have x4 := hx5 4 _ rfl
            have x5 := hx5 5 _ rfl
            have x6 := hx5 6 _ rfl
            have x7 := hx5 7 _ rfl
            have x8 := hx5 8 _ rfl
            have x9 := hx5 9 _ rfl
            have x10 := hx5 10 _ rfl
            simp only [Nat.zero_add] at x0 x1 x2 x3 x4 x5 x6 x7 x8 x9 x10
            clear hx5
            obtain ⟨hbx, hrz, hfz, hbw, hgz⟩ := KB.out w5 HT5.out
            have n0 := hbx 0 _ rfl
            have n1 := hbx 1 _ rfl
            have n2 := hbx 2 _ rfl
            have n3 := hbx 3 _ rfl
            have n4 := hbx 4 _ rfl
            have n5 := hbx 5 _ rfl
            have n6 := hbx 6 _ rfl
            have n7 := hbx 7 _ rfl
            have n8 := hbx 8 _ rfl
            have n9 := hbx 9 _ rfl
            have n10 := hbx 10 _ rfl
            have r0 := hrz 0 _ rfl
            have r1 := hrz 1 _ rfl
            have r2 := hrz 2 _ rfl
            have r3 := hrz 3 _ rfl
            have r4 := hrz 4 _ rfl
            have r5 := hrz 5 _ rfl
            have r6 := hrz 6 _ rfl
            have r7 := hrz 7 _ rfl
            have r8 := hrz 8 _ rfl
            have r9 := hrz 9 _ rfl
            have r10 := hrz 10 _ rfl
            have f0 := hfz 0
            have f1 := hfz 1
            have f2 := hfz 2
            have f3 := hfz 3
            have f4 := hfz 4
            have f5 := hfz 5
            have f6 := hfz 6
            have f7 := hfz 7
            have f8 := hfz 8
            have f9 := hfz 9
            have f10 := hfz 10
            simp only [Nat.zero_add] at n0 n1 n2 n3 n4 n5 n6 n7 n8 n9 n10 r0 r1 r2 r3 r4 r5 r6 r7 r8 r9 r10
            have HBW_w5 := hid hbw
            clear hbx hrz hfz hbw hgz
            go_wp2_with fail
            go_region
            generalize hX : ((((((((((w5.setCell _ (.int .i64 r.f.kind)).setCell _ (.string r.f.name)).setCell _ (.int .i64 r.f.size)).setCell _ (.int .i64 r.f.w)).setCell _ (.int .i64 r.f.h)).setCell _ (.int .i64 r.f.d)).setCell _ (.int .i64 r.f.x)).setCell _ (.int .i64 r.f.y)).setCell _ (.slice Ar r.kids.length cr)).setCell _ (.int .i64 r.f.of_)).setCell _ (.slice Bs r.f.src.length cs') = WX
            generalize hW : WX.drew = WE
            have hs := setL [.int .i64 r.f.kind, .string r.f.name, .int .i64 r.f.size, .int .i64 r.f.w, .int .i64 r.f.h, .int .i64 r.f.d, .int .i64 r.f.x, .int .i64 r.f.y, .slice Ar r.kids.length cr, .int .i64 r.f.of_, .slice Bs r.f.src.length cs'] w5 (w.heap.size + 1) 0 (fun j hj => (KB.out w5 HT5.out).2.1.has j (by simpa using hj))
            rw [show setCells w5 (w.heap.size + 1) 0 [.int .i64 r.f.kind, .string r.f.name, .int .i64 r.f.size, .int .i64 r.f.w, .int .i64 r.f.h, .int .i64 r.f.d, .int .i64 r.f.x, .int .i64 r.f.y, .slice Ar r.kids.length cr, .int .i64 r.f.of_, .slice Bs r.f.src.length cs'] = WX from hX] at hs
            have hz : BoxL WE (w.heap.size + 1) 0 [.int .i64 r.f.kind, .string r.f.name, .int .i64 r.f.size, .int .i64 r.f.w, .int .i64 r.f.h, .int .i64 r.f.d, .int .i64 r.f.x, .int .i64 r.f.y, .slice Ar r.kids.length cr, .int .i64 r.f.of_, .slice Bs r.f.src.length cs'] := by rw [← hW]; exact hs.at_
            have z0 := hz 0 _ rfl
            have z1 := hz 1 _ rfl
            have z2 := hz 2 _ rfl
            have z3 := hz 3 _ rfl
            have z4 := hz 4 _ rfl
            have z5 := hz 5 _ rfl
            have z6 := hz 6 _ rfl
            have z7 := hz 7 _ rfl
            have z8 := hz 8 _ rfl
            have z9 := hz 9 _ rfl
            have z10 := hz 10 _ rfl
            simp only [Nat.zero_add] at z0 z1 z2 z3 z4 z5 z6 z7 z8 z9 z10
            have HB' : Hid (Below w.heap.size w WE) := by rw [← hW]; exact (hs.below w.heap.size w (by omega) HBW_w5.out).drew
            clear hW hX hs hz
            go_wp2_with fail
            refine bodyPost_ret (v := .tuple #[.agg #[.int .i64 r.f.kind, .string r.f.name, .int .i64 r.f.size, .int .i64 r.f.w, .int .i64 r.f.h, .int .i64 r.f.d, .int .i64 r.f.x, .int .i64 r.f.y, .slice Ar r.kids.length cr, .int .i64 r.f.of_, .slice Bs r.f.src.length cs'], .int .i64 (lx + kf.x), .int .i64 (ly + kf.y), .bool true]) (by simp [results, Tryz.results85, go_sem, z0, z1, z2, z3, z4, z5, z6, z7, z8, z9, z10]) rfl ?_
            exact ⟨HB'.out, .inr ⟨_, _, _, _, _, _, _, HFF.out, rfl, HRR.out.1, HRR.out.2.1, HRR.out.2.2⟩⟩
        · have i5 : decide ((k : Int) < (ks.length : Int)) = false := by rw [decide_eq_false_iff_not]; omega
          have HNN : Hid (findB q p (.mk f ks) = none) := by show _ = _; rw [HR.out, List.drop_of_length_le hge, findsB]
          go_wp2_with fail
          generalize hW : ((((((((((wr.setCell _ (.int .i64 0)).setCell _ (.string ⟨#[]⟩)).setCell _ (.int .i64 0)).setCell _ (.int .i64 0)).setCell _ (.int .i64 0)).setCell _ (.int .i64 0)).setCell _ (.int .i64 0)).setCell _ (.int .i64 0)).setCell _ (.slice none 0 0)).setCell _ (.int .i64 0)).setCell _ (.slice none 0 0) = WE
          have hs := setL [.int .i64 0, .string ⟨#[]⟩, .int .i64 0, .int .i64 0, .int .i64 0, .int .i64 0, .int .i64 0, .int .i64 0, .slice none 0 0, .int .i64 0, .slice none 0 0] wr (w.heap.size + 1) 0 (fun j hj => (KB.out wr HTR.out).2.1.has j (by simpa using hj))
          rw [show setCells wr (w.heap.size + 1) 0 [.int .i64 0, .string ⟨#[]⟩, .int .i64 0, .int .i64 0, .int .i64 0, .int .i64 0, .int .i64 0, .int .i64 0, .slice none 0 0, .int .i64 0, .slice none 0 0] = WE from hW] at hs
          have hz := hs.at_
          have z0 := hz 0 _ rfl
          have z1 := hz 1 _ rfl
          have z2 := hz 2 _ rfl
          have z3 := hz 3 _ rfl
          have z4 := hz 4 _ rfl
          have z5 := hz 5 _ rfl
          have z6 := hz 6 _ rfl
          have z7 := hz 7 _ rfl
          have z8 := hz 8 _ rfl
          have z9 := hz 9 _ rfl
          have z10 := hz 10 _ rfl
          simp only [Nat.zero_add] at z0 z1 z2 z3 z4 z5 z6 z7 z8 z9 z10
          have HB' := hid (hs.below w.heap.size w (by omega) HBW_wr.out)
          clear hW hs hz
          refine bodyPost_ret (v := .tuple #[.agg #[.int .i64 0, .string ⟨#[]⟩, .int .i64 0, .int .i64 0, .int .i64 0, .int .i64 0, .int .i64 0, .int .i64 0, .slice none 0 0, .int .i64 0, .slice none 0 0], .int .i64 0, .int .i64 0, .bool false]) (by simp [results, Tryz.results85, go_sem, z0, z1, z2, z3, z4, z5, z6, z7, z8, z9, z10]) rfl ?_
          exact ⟨HB'.out, .inl ⟨HNN.out, rfl⟩⟩
end Go.Proofs.YtmahiejfniaahaaGreatDoor
