/- Texts put together. -/
import Derived.Test.YtbjcioknfjofkaaGreatQ0a2d1212ff
import Derived.Test.YtbjcioknfjofkaaGreatQ738aa96999
set_option linter.unusedVariables false
set_option linter.unusedSimpArgs false
set_option maxRecDepth 100000
namespace Go.Proofs.YtbjcioknfjofkaaGreat
open Go.RowKit
def kidS (t:Tree) (i:Int):Tree:=t.kids.getD i.toNat zAx
def putS:Tree→List Int→List Tree→Tree
 | t,i :: k :: p,l=>zCj t i.toNat (zCj (kidS t i) k.toNat (putS (kidS (kidS t i) k) p l))
 | _,_,l=>rowT l
def NS (S:Nat→Prop) (b:Nat) (w:World) (q:Nat):Prop:=S q∨b≤q∧q < w.heap.size
theorem NS.keep {S:Nat→Prop} {b:Nat} {w w':World} {l:List Tree} {v:Value} (h:zAa zAb w (NS S b w) l v) (hS:∀ q,S q→q < w.heap.size) (hb:Below w.heap.size w w'):zAa zAb w' (NS S b w') l v:=newer h hS hb
theorem zEa.ns {S:Nat→Prop} {b:Nat} {W w':World} {t:Tree} {e:Ending} (h:zEa S W t e w') (hb:b≤W.heap.size):∃ v,e = .returned (.agg #[.int .i64 t.kind,.string t.text,.int .i64 t.cols,v])∧zAa zAb w' (NS S b w') t.kids v∧Below W.heap.size W w':=by
 obtain ⟨v,h1,h2,h3⟩:=h
 exact ⟨v,h1,h2.keep (fun _ _=>rfl) (fun q hq=>by rcases hq with hq | hq;exact .inl hq;exact .inr ⟨by omega,hq.2⟩),h3⟩
theorem zEa.ns2 {S:Nat→Prop} {b:Nat} {W w':World} {t:Tree} {e:Ending} (h:zEa (NS S b W) W t e w') (hb:b≤W.heap.size):∃ v,e = .returned (.agg #[.int .i64 t.kind,.string t.text,.int .i64 t.cols,v])∧zAa zAb w' (NS S b w') t.kids v∧Below W.heap.size W w':=by
 obtain ⟨v,h1,h2,h3⟩:=h
 have:=h3.size
 exact ⟨v,h1,h2.keep (fun _ _=>rfl) (fun q hq=>by
  rcases hq with (hq | hq) | hq
  ·exact .inl hq
  ·exact .inr ⟨by omega,by omega⟩
  ·exact .inr ⟨by omega,hq.2⟩),h3⟩
theorem zKc (t:Tree) (p:List Int) (l:List Tree) (h:zAu t):zAu (putS t p l):=by
 match p with
 | []=>exact ⟨by simp [putS,rowT,Tree.kind,In64],by simp [putS,rowT,Tree.cols,In64],Nat.zero_le _⟩
 | [_]=>exact ⟨by simp [putS,rowT,Tree.kind,In64],by simp [putS,rowT,Tree.cols,In64],Nat.zero_le _⟩
 | i :: k :: p=>exact h
set_option maxHeartbeats 8000000 in
theorem zPz : (p : List Int) → ∀ (t : Tree) (l : List Tree) (A B Ap : Option Addr) (cap cb cp : Nat) (w : World) (S : Nat → Prop), (∀ q, S q → q < w.heap.size) → (zAm t p).2 = true → zAe t ≤ 1000000 → zAu t → l.length ≤ 1000000 → zAa zAb w S t.kids (.slice A t.kids.length cap) → zAa zAb w S l (.slice B l.length cb) → zAh w (Lt w.heap.size) p (.slice Ap p.length cp) →
    Calls Tryz.prog 80 #[.agg #[.int .i64 t.kind, .string t.text, .int .i64 t.cols, .slice A t.kids.length cap], .slice Ap p.length cp, .slice B l.length cb] w (zEa S w (putS t p l))
  | [], t, l, A, B, Ap, cap, cb, cp, w, S, hS, hf, hct, hok, hll, hv, hl, hp => by
    obtain ⟨tk, tx, tc, ts⟩ := t
    simp only [Tree.kind, Tree.text, Tree.cols, Tree.kids, putS] at *
    generalize hW0 : (w.alloc (Obj.cells #[.int .i64 tk, .string tx, .int .i64 tc, .slice A ts.length cap] 24)).alloc (Obj.cells #[.int .i64 0, .string ⟨#[]⟩, .int .i64 0, .slice none 0 0] 24) = W0
    have hz0 : W0.heap.size = w.heap.size + 1 + 1 := by rw [← hW0]; simp
    have hB0 : Below w.heap.size w W0 := by rw [← hW0]; exact zAp (blA _ _) _
    have hbR : Box4 W0 (w.heap.size + 1) 0 ⟨#[]⟩ 0 (.slice none 0 0) ∧ zCz W0 (w.heap.size + 1) := by
      rw [← hW0]
      have h := Box4.new (w.alloc (Obj.cells #[.int .i64 tk, .string tx, .int .i64 tc, .slice A ts.length cap] 24)) 0 ⟨#[]⟩ 0 (.slice none 0 0) 24
      have h2 := zCz.new (w.alloc (Obj.cells #[.int .i64 tk, .string tx, .int .i64 tc, .slice A ts.length cap] 24)) #[.int .i64 0, .string ⟨#[]⟩, .int .i64 0, .slice none 0 0] 24
      exact ⟨by simpa using h, by simpa using h2⟩
    have KC : Hid (∀ W, Below W0.heap.size W0 W → Box4 W (w.heap.size + 1) 0 ⟨#[]⟩ 0 (.slice none 0 0) ∧ zCz W (w.heap.size + 1) ∧ Below w.heap.size w W) := fun W h => ⟨hbR.1.below h (by omega), hbR.2.below h (by omega), hB0.trans (h.mono hB0.size)⟩
    have HL := hid hl
    have HSS := hid hS
    have HZ0 := hid hz0
    clear hv hl hp hS hf hct hok hz0 hB0 hbR
    go_enter Tryz.func80, Tryz.ntmps80
    go_wp2_with fail
    refine (zHp _ _ _ _).mono ?_
    rintro e w2 ⟨rfl, hb2⟩
    obtain ⟨hrb, ⟨f0, f1, f2, f3⟩, hbw⟩ := KC.out w2 hb2
    have HRB := hid hrb
    obtain ⟨r0, r1, r2, r3⟩ := hrb
    have HBW := hid hbw
    clear hb2 hbw
    go_wp2_with fail
    generalize hZ : ((((w2.setCell _ (.int .i64 1)).setCell _ (.string ⟨#[]⟩)).setCell _ (.int .i64 0)).setCell _ (.slice B l.length cb)) = Z
    obtain ⟨⟨e0, e1, e2, e3⟩, hZs, hZB, hZo, _, _⟩ := zC4 (o := 0) HRB.out.1 HRB.out.2.1 HRB.out.2.2.1 HRB.out.2.2.2 _ _ _ _ hZ.symm
    simp only [Nat.zero_add] at e1 e2 e3
    have HZB := hid (hZB w.heap.size w (by omega) HBW.out)
    have HZO := hid hZo
    clear hZ hZs hZB hZo
    refine bodyPost_ret (v := .agg #[.int .i64 1, .string ⟨#[]⟩, .int .i64 0, .slice B l.length cb]) (by simp [results, Tryz.results80, go_sem, e0, e1, e2, e3]) rfl ?_
    exact ⟨_, rfl, HL.out.keep (fun q hq => (HZO.out q (by have := HSS.out _ hq; omega)).trans (HBW.out.cell (HSS.out _ hq))) (fun q hq => .inl hq), HZB.out⟩
  | [_], t, l, A, B, Ap, cap, cb, cp, w, S, hS, hf, hct, hok, hll, hv, hl, hp => by simp [zAm] at hf
  | i :: k :: p, t, l, A, B, Ap, cap, cb, cp, w, S, hS, hf, hct, hok, hll, hv, hl, hp => by
    rw [zAm] at hf
    split at hf
    case isFalse => cases hf
    rename_i hi
    split at hf
    case isFalse => cases hf
    rename_i hk
    obtain ⟨hi1, hi2⟩ := hi
    obtain ⟨hk1, hk2⟩ := hk
    obtain ⟨i', rfl⟩ : ∃ i' : Nat, i = i' := ⟨i.toNat, by omega⟩
    obtain ⟨k', rfl⟩ : ∃ k' : Nat, k = k' := ⟨k.toNat, by omega⟩
    simp only [Int.toNat_natCast] at hi2 hk2 hf
    have hkid : kidS t (i' : Int) = t.kids[i'] := by unfold kidS; rw [Int.toNat_natCast, List.getD_eq_getElem?_getD, List.getElem?_eq_getElem hi2]; rfl
    have hkid2 : kidS t.kids[i'] (k' : Int) = t.kids[i'].kids[k'] := by unfold kidS; rw [Int.toNat_natCast, List.getD_eq_getElem?_getD, List.getElem?_eq_getElem hk2]; rfl
    have hput : putS t ((i' : Int) :: (k' : Int) :: p) l = zCj t i' (zCj t.kids[i'] k' (putS t.kids[i'].kids[k'] p l)) := by rw [putS, Int.toNat_natCast, Int.toNat_natCast, hkid, hkid2]
    have hc1 : zAe t.kids[i'] ≤ 1000000 ∧ t.kids.length ≤ 1000000 := by
      have h1 := zBa hi2
      have h2 := zAo t.kids (i' + 1)
      have h3 := zAn t
      have h4 : zAe t = 1 + zAd t.kids := by cases t; rfl
      constructor <;> omega
    have hc2 : zAe t.kids[i'].kids[k'] ≤ 1000000 ∧ t.kids[i'].kids.length ≤ 1000000 := by
      have h1 := zBa hk2
      have h2 := zAo t.kids[i'].kids (k' + 1)
      have h3 := zAn t.kids[i']
      have h4 : zAe t.kids[i'] = 1 + zAd t.kids[i'].kids := by cases t.kids[i']; rfl
      constructor <;> omega
    have hv0 := hv
    obtain ⟨_, _, rs0, hq, _, _, hrd0, hls0⟩ := hv0
    cases hq
    obtain ⟨g, o, A1, c1, rs1, rfl, hg, t0, t1, t2, t3, b1, b2, b3, b4, b5, hrd1, hls1⟩ := zAy hrd0 hls0 hi2
    obtain ⟨gk, ok, A2, c2, rs2, rfl, hgk, d0, d1, d2, d3, a1, a2, a3, a4, a5, hrd2, hls2⟩ := zAy hrd1 hls1 hk2
    have hIv : zAa zAb w S t.kids[i'].kids (.slice (some ⟨gk, ok, none⟩) t.kids[i'].kids.length c1) := ⟨_, _, rs1, rfl, b4, b5, hrd1, hls1⟩
    have hKv : zAa zAb w S t.kids[i'].kids[k'].kids (.slice A2 t.kids[i'].kids[k'].kids.length c2) := ⟨_, _, rs2, rfl, a4, a5, hrd2, hls2⟩
    have hokI : zAu t.kids[i'] := ⟨b1, b2, b3⟩
    have hokK : zAu t.kids[i'].kids[k'] := ⟨a1, a2, a3⟩
    have hp0 := hp
    obtain ⟨_, _, ws, hq, hpc, hpm, hrdp, hlsp⟩ := hp0
    cases hq
    obtain ⟨gp, op, rfl, hgp, _, p0⟩ := zB2 hrdp hlsp (k := 0) (by simp)
    obtain ⟨g2, o2, hq, _, _, p1⟩ := zB2 hrdp hlsp (k := 1) (by simp)
    cases hq
    simp only [List.getElem_cons_zero, List.getElem_cons_succ, Nat.add_zero] at p0 p1
    obtain ⟨A3, hsl, hcut⟩ := zNc intE Tryz.underlying31 zCm (some ⟨gp, op, none⟩) ((i' : Int) :: (k' : Int) :: p).length cp 2 2 rfl (by simp)
    have hpq := hcut _ _ _ hp
    simp only [List.drop_succ_cons, List.drop_zero] at hpq
    rw [show ((i' : Int) :: (k' : Int) :: p).length - 2 = p.length by simp] at hsl hpq
    have C1 : Hid (∀ W, Below w.heap.size w W → Calls Tryz.prog 80 #[.agg #[.int .i64 t.kids[i'].kids[k'].kind, .string t.kids[i'].kids[k'].text, .int .i64 t.kids[i'].kids[k'].cols, .slice A2 t.kids[i'].kids[k'].kids.length c2], .slice A3 p.length (cp - 2), .slice B l.length cb] W (zEa S W (putS t.kids[i'].kids[k'] p l))) := fun W hW =>
      zPz p t.kids[i'].kids[k'] l A2 B A3 c2 cb (cp - 2) W S (fun q hq => Nat.lt_of_lt_of_le (hS q hq) hW.size) hf hc2.1 hokK hll (hKv.keep (fun q hq => hW.cell (hS _ hq)) (fun _ h => h)) (hl.keep (fun q hq => hW.cell (hS _ hq)) (fun _ h => h)) (hpq.below hW hW.size)
    have hokR1 := zKc t.kids[i'].kids[k'] p l hokK
    have C2 : Hid (∀ W b v', Below w.heap.size w W → zAa zAb W (NS S b W) (putS t.kids[i'].kids[k'] p l).kids v' → ∀ B' c', v' = .slice B' (putS t.kids[i'].kids[k'] p l).kids.length c' → Calls Tryz.prog 116 #[.agg #[.int .i64 t.kids[i'].kind, .string t.kids[i'].text, .int .i64 t.kids[i'].cols, .slice (some ⟨gk, ok, none⟩) t.kids[i'].kids.length c1], .int .i64 k', .agg #[.int .i64 (putS t.kids[i'].kids[k'] p l).kind, .string (putS t.kids[i'].kids[k'] p l).text, .int .i64 (putS t.kids[i'].kids[k'] p l).cols, v']] W (zEa (NS S b W) W (zCj t.kids[i'] k' (putS t.kids[i'].kids[k'] p l)))) := by
      intro W b v' hW hr B' c' hv'
      subst hv'
      exact zEd t.kids[i'] (putS t.kids[i'].kids[k'] p l) k' _ B' c1 c' W _ (fun q hq => by
        have hz := hW.size
        rcases hq with hq | hq
        · have := hS q hq; omega
        · exact hq.2) hk2 hc2.2 hokR1 (hIv.keep (fun q hq => hW.cell (hS _ hq)) (fun q hq => .inl hq)) hr
    have C3 : Hid (∀ W b v', Below w.heap.size w W → zAa zAb W (NS S b W) (zCj t.kids[i'] k' (putS t.kids[i'].kids[k'] p l)).kids v' → ∀ B' c', v' = .slice B' (zCj t.kids[i'] k' (putS t.kids[i'].kids[k'] p l)).kids.length c' → Calls Tryz.prog 116 #[.agg #[.int .i64 t.kind, .string t.text, .int .i64 t.cols, .slice (some ⟨g, o, none⟩) t.kids.length cap], .int .i64 i', .agg #[.int .i64 t.kids[i'].kind, .string t.kids[i'].text, .int .i64 t.kids[i'].cols, v']] W (zEa (NS S b W) W (putS t ((i' : Int) :: (k' : Int) :: p) l))) := by
      intro W b v' hW hr B' c' hv'
      subst hv'
      rw [hput]
      exact zEd t (zCj t.kids[i'] k' (putS t.kids[i'].kids[k'] p l)) i' _ B' cap c' W _ (fun q hq => by
        have hz := hW.size
        rcases hq with hq | hq
        · have := hS q hq; omega
        · exact hq.2) hi2 hc1.2 hokI (hv.keep (fun q hq => hW.cell (hS _ hq)) (fun q hq => .inl hq)) hr
    have KO : Hid (∀ W, Below w.heap.size w W → (W.cell? ⟨g, o + i' * 4, none⟩ = some (.int .i64 t.kids[i'].kind) ∧ W.cell? ⟨g, o + i' * 4 + 1, none⟩ = some (.string t.kids[i'].text) ∧ W.cell? ⟨g, o + i' * 4 + 2, none⟩ = some (.int .i64 t.kids[i'].cols) ∧ W.cell? ⟨g, o + i' * 4 + 3, none⟩ = some (.slice (some ⟨gk, ok, none⟩) t.kids[i'].kids.length c1)) ∧
        (W.cell? ⟨gk, ok + k' * 4, none⟩ = some (.int .i64 t.kids[i'].kids[k'].kind) ∧ W.cell? ⟨gk, ok + k' * 4 + 1, none⟩ = some (.string t.kids[i'].kids[k'].text) ∧ W.cell? ⟨gk, ok + k' * 4 + 2, none⟩ = some (.int .i64 t.kids[i'].kids[k'].cols) ∧ W.cell? ⟨gk, ok + k' * 4 + 3, none⟩ = some (.slice A2 t.kids[i'].kids[k'].kids.length c2)) ∧
        (W.cell? ⟨gp, op, none⟩ = some (.int .i64 i') ∧ W.cell? ⟨gp, op + 1, none⟩ = some (.int .i64 k'))) := fun W hW =>
      have h1 : g < w.heap.size := hS _ hg
      have h2 : gk < w.heap.size := hS _ hgk
      have h3 : gp < w.heap.size := hgp
      ⟨⟨(hW.cell (p := ⟨g, _, none⟩) h1).trans t0, (hW.cell (p := ⟨g, _, none⟩) h1).trans t1, (hW.cell (p := ⟨g, _, none⟩) h1).trans t2, (hW.cell (p := ⟨g, _, none⟩) h1).trans t3⟩, ⟨(hW.cell (p := ⟨gk, _, none⟩) h2).trans d0, (hW.cell (p := ⟨gk, _, none⟩) h2).trans d1, (hW.cell (p := ⟨gk, _, none⟩) h2).trans d2, (hW.cell (p := ⟨gk, _, none⟩) h2).trans d3⟩, (hW.cell (p := ⟨gp, _, none⟩) h3).trans p0, (hW.cell (p := ⟨gp, _, none⟩) h3).trans p1⟩
    have j0 : (0 : Int) ≤ (i' : Int) := by omega
    have j1 : (i' : Int) < (t.kids.length : Int) := by omega
    have j2 : (0 : Int) ≤ (k' : Int) := by omega
    have j3 : (k' : Int) < (t.kids[i'].kids.length : Int) := by omega
    have j4 : (0 : Int) < (((i' : Int) :: (k' : Int) :: p).length : Int) := by simp; omega
    have j5 : (1 : Int) < (((i' : Int) :: (k' : Int) :: p).length : Int) := by simp; omega
    have j7 : 0 < ((i' : Int) :: (k' : Int) :: p).length := by simp
    have j8 : 1 < ((i' : Int) :: (k' : Int) :: p).length := by simp
    have j6 : (((((i' : Int) :: (k' : Int) :: p).length : Int) == 0) = false) := by simp; omega
    have HSS := hid hS
    have hrk : (putS t ((i' : Int) :: (k' : Int) :: p) l).kind = t.kind ∧ (putS t ((i' : Int) :: (k' : Int) :: p) l).text = t.text ∧ (putS t ((i' : Int) :: (k' : Int) :: p) l).cols = t.cols := ⟨rfl, rfl, rfl⟩
    have HRK := hid hrk
    generalize putS t ((i' : Int) :: (k' : Int) :: p) l = R3 at *
    generalize putS t.kids[i'].kids[k'] p l = R1 at *
    have HR2 : Hid ((zCj t.kids[i'] k' R1).kind = t.kids[i'].kind ∧ (zCj t.kids[i'] k' R1).text = t.kids[i'].text ∧ (zCj t.kids[i'] k' R1).cols = t.kids[i'].cols) := ⟨rfl, rfl, rfl⟩
    generalize zCj t.kids[i'] k' R1 = R2 at *
    generalize t.kids[i'].kids[k'] = kid at *
    generalize t.kids[i'] = item at *
    generalize ((i' : Int) :: (k' : Int) :: p).length = m at *
    clear hv hl hp hf hct hok hll hrd0 hls0 hrd1 hls1 hrd2 hls2 hIv hKv hrdp hlsp hcut hpq hc1 hc2 hkid hkid2 hput hokI hokK hokR1 hS b1 b2 b3 b4 b5 a1 a2 a3 a4 a5 hpc hpm hrk
    obtain ⟨tk, tx, tc, ts⟩ := t
    obtain ⟨ik, ix, ic, is⟩ := item
    obtain ⟨kk, kx, kc, ks⟩ := kid
    obtain ⟨r1k, r1x, r1c, r1s⟩ := R1
    obtain ⟨r2k, r2x, r2c, r2s⟩ := R2
    obtain ⟨rk, rx, rc, rs⟩ := R3
    simp only [Tree.kind, Tree.text, Tree.cols, Tree.kids] at *
    obtain ⟨q1, q2, q3⟩ := HR2.out
    subst r2k r2x r2c
    clear HR2
    generalize hW0 : (w.alloc (Obj.cells #[.int .i64 tk, .string tx, .int .i64 tc, .slice (some ⟨g, o, none⟩) ts.length cap] 24)).alloc (Obj.cells #[.int .i64 0, .string ⟨#[]⟩, .int .i64 0, .slice none 0 0] 24) = W0
    have hz0 : W0.heap.size = w.heap.size + 1 + 1 := by rw [← hW0]; simp
    have hB0 : Below w.heap.size w W0 := by rw [← hW0]; exact zAp (blA _ _) _
    have hbT : Box4 W0 w.heap.size tk tx tc (.slice (some ⟨g, o, none⟩) ts.length cap) := by
      rw [← hW0]
      exact (Box4.new w _ _ _ _ _).below (blA _ _) (by simp)
    have hbR : Box4 W0 (w.heap.size + 1) 0 ⟨#[]⟩ 0 (.slice none 0 0) ∧ zCz W0 (w.heap.size + 1) := by
      rw [← hW0]
      have h := Box4.new (w.alloc (Obj.cells #[.int .i64 tk, .string tx, .int .i64 tc, .slice (some ⟨g, o, none⟩) ts.length cap] 24)) 0 ⟨#[]⟩ 0 (.slice none 0 0) 24
      have h2 := zCz.new (w.alloc (Obj.cells #[.int .i64 tk, .string tx, .int .i64 tc, .slice (some ⟨g, o, none⟩) ts.length cap] 24)) #[.int .i64 0, .string ⟨#[]⟩, .int .i64 0, .slice none 0 0] 24
      exact ⟨by simpa using h, by simpa using h2⟩
    have KC : Hid (∀ W, Below W0.heap.size W0 W → Box4 W w.heap.size tk tx tc (.slice (some ⟨g, o, none⟩) ts.length cap) ∧ Box4 W (w.heap.size + 1) 0 ⟨#[]⟩ 0 (.slice none 0 0) ∧ zCz W (w.heap.size + 1) ∧ Below w.heap.size w W) := fun W h => ⟨hbT.below h (by omega), hbR.1.below h (by omega), hbR.2.below h (by omega), hB0.trans (h.mono hB0.size)⟩
    have HZ0 := hid hz0
    have HB0 := hid hB0
    obtain ⟨⟨t0, t1, t2, t3⟩, ⟨d0, d1, d2, d3⟩, p0, p1⟩ := KO.out W0 hB0
    obtain ⟨m0, m1, m2, m3⟩ := hbT
    clear hz0 hB0 hbR
    go_enter Tryz.func80, Tryz.ntmps80
    go_wp2_with fail
    go_region_held3 (fun w' => w'.cell? ⟨w.heap.size, 3, none⟩ = some (.slice (some ⟨g, o, none⟩) ts.length cap) ∧ w'.cell? ⟨gp, op, none⟩ = some (.int .i64 i') ∧ w'.cell? ⟨g, o + i' * 4, none⟩ = some (.int .i64 ik) ∧ w'.cell? ⟨g, o + i' * 4 + 1, none⟩ = some (.string ix) ∧ w'.cell? ⟨g, o + i' * 4 + 2, none⟩ = some (.int .i64 ic) ∧ w'.cell? ⟨g, o + i' * 4 + 3, none⟩ = some (.slice (some ⟨gk, ok, none⟩) is.length c1)) (go_keep) (fail)
    have HXB : Hid (Below w.heap.size w (W0.alloc (Obj.cells #[.int .i64 ik, .string ix, .int .i64 ic, .slice (some ⟨gk, ok, none⟩) is.length c1] 24)).drew) := zC2 (zAp HB0.out _)
    obtain ⟨X, hX⟩ : ∃ X, (W0.alloc (Obj.cells #[.int .i64 ik, .string ix, .int .i64 ic, .slice (some ⟨gk, ok, none⟩) is.length c1] 24)).drew = X := ⟨_, rfl⟩
    have hbI : Box4 X W0.heap.size ik ix ic (.slice (some ⟨gk, ok, none⟩) is.length c1) := by rw [← hX]; exact Box4.new _ _ _ _ _ _
    have h0X : Below W0.heap.size W0 X := by rw [← hX]; exact zC2 (blA _ _)
    have hXs : X.heap.size = w.heap.size + 1 + 1 + 1 := by rw [← hX]; have := HZ0.out; simp [World.drew]; omega
    rw [hX] at HXB ⊢
    clear hX t0 t1 t2 t3 d0 d1 d2 d3 p0 p1 m0 m1 m2 m3
    have KX : Hid (∀ W, Below X.heap.size X W → Box4 W w.heap.size tk tx tc (.slice (some ⟨g, o, none⟩) ts.length cap) ∧ Box4 W W0.heap.size ik ix ic (.slice (some ⟨gk, ok, none⟩) is.length c1) ∧ Box4 W (w.heap.size + 1) 0 ⟨#[]⟩ 0 (.slice none 0 0) ∧ zCz W (w.heap.size + 1) ∧ Below w.heap.size w W) := fun W hW => by
      obtain ⟨h1, h2, h3, h4⟩ := KC.out W (h0X.trans (hW.mono h0X.size))
      exact ⟨h1, hbI.below hW (by have := HZ0.out; omega), h2, h3, h4⟩
    have HXS := hid hXs
    obtain ⟨⟨t0, t1, t2, t3⟩, ⟨d0, d1, d2, d3⟩, p0, p1⟩ := KO.out X HXB.out
    obtain ⟨⟨m0, m1, m2, m3⟩, ⟨n0, n1, n2, n3⟩, _⟩ := KX.out X (Below.refl _ _)
    clear hXs hbI h0X
    have ne1 : ¬ (w.heap.size + 1 = gp) := by have h9 : gp < w.heap.size := hgp; omega
    have ne2 : ¬ (w.heap.size + 1 = gk) := by have h9 := HSS.out _ hgk; omega
    have ne3 : ¬ (w.heap.size + 1 = W0.heap.size) := by have h9 := HZ0.out; omega
    go_wp2_with fail
    go_region_held3 (fun w' => (w'.cell? ⟨w.heap.size, 0, none⟩ = some (.int .i64 tk) ∧ w'.cell? ⟨w.heap.size, 1, none⟩ = some (.string tx) ∧ w'.cell? ⟨w.heap.size, 2, none⟩ = some (.int .i64 tc) ∧ w'.cell? ⟨w.heap.size, 3, none⟩ = some (.slice (some ⟨g, o, none⟩) ts.length cap)) ∧ w'.cell? ⟨gp, op, none⟩ = some (.int .i64 i') ∧ w'.cell? ⟨gp, op + 1, none⟩ = some (.int .i64 k') ∧
        (w'.cell? ⟨W0.heap.size, 0, none⟩ = some (.int .i64 ik) ∧ w'.cell? ⟨W0.heap.size, 1, none⟩ = some (.string ix) ∧ w'.cell? ⟨W0.heap.size, 2, none⟩ = some (.int .i64 ic) ∧ w'.cell? ⟨W0.heap.size, 3, none⟩ = some (.slice (some ⟨gk, ok, none⟩) is.length c1)) ∧
        (w'.cell? ⟨gk, ok + k' * 4, none⟩ = some (.int .i64 kk) ∧ w'.cell? ⟨gk, ok + k' * 4 + 1, none⟩ = some (.string kx) ∧ w'.cell? ⟨gk, ok + k' * 4 + 2, none⟩ = some (.int .i64 kc) ∧ w'.cell? ⟨gk, ok + k' * 4 + 3, none⟩ = some (.slice A2 ks.length c2))) (go_keep) (first
      | (go_at_call 80; refine (C1.out _ (zC2 HXB.out)).mono ?_; intro e w1 h1; obtain ⟨v1, rfl, hr1, hb1⟩ : ∃ v, e = .returned (.agg #[.int .i64 r1k, .string r1x, .int .i64 r1c, v]) ∧ zAa zAb w1 (NS S X.heap.size w1) r1s v ∧ Below X.heap.size X w1 := by { obtain ⟨v, e1, e2, e3⟩ := zEa.ns h1 (b := X.heap.size) (Nat.le_refl _); exact ⟨v, e1, e2, zC7 e3⟩ }; obtain ⟨A4, c4, rfl⟩ := hr1.form; have HR1 := hid hr1; have HB1 := hid hb1; clear hb1 hr1; obtain ⟨⟨k0, k1, k2, k3⟩, ⟨n0, n1, n2, n3⟩, _, _, hbw⟩ := KX.out w1 HB1.out; have HK1 := hid hbw; obtain ⟨⟨t0, t1, t2, t3⟩, ⟨d0, d1, d2, d3⟩, p0, p1⟩ := KO.out w1 hbw; clear hbw)
      | (go_at_call 116; refine (C2.out _ X.heap.size _ HK1.out HR1.out _ _ rfl).mono ?_; intro e w2 h2; obtain ⟨v2, rfl, hr2, hb2⟩ : ∃ v, e = .returned (.agg #[.int .i64 ik, .string ix, .int .i64 ic, v]) ∧ zAa zAb w2 (NS S X.heap.size w2) r2s v ∧ Below w1.heap.size w1 w2 := zEa.ns2 h2 HB1.out.size; obtain ⟨A5, c5, rfl⟩ := hr2.form; have HR2 := hid hr2; have HB2 := hid (zAq HB1.out hb2); clear hb2 hr2 HR1; obtain ⟨⟨k0, k1, k2, k3⟩, ⟨n0, n1, n2, n3⟩, _, _, hbw⟩ := KX.out w2 HB2.out; have HK2 := hid hbw; obtain ⟨⟨t0, t1, t2, t3⟩, ⟨d0, d1, d2, d3⟩, p0, p1⟩ := KO.out w2 hbw; clear hbw)
      | (go_at_call 116; refine (C3.out _ X.heap.size _ HK2.out HR2.out _ _ rfl).mono ?_; intro e w3 h3; obtain ⟨v3, rfl, hr3, hb3⟩ : ∃ v, e = .returned (.agg #[.int .i64 rk, .string rx, .int .i64 rc, v]) ∧ zAa zAb w3 (NS S X.heap.size w3) rs v ∧ Below w2.heap.size w2 w3 := zEa.ns2 h3 HB2.out.size; obtain ⟨A6, c6, rfl⟩ := hr3.form; have HR3 := hid hr3; have HB3 := hid (zAq HB2.out hb3); clear hb3 hr3 HR2; obtain ⟨⟨k0, k1, k2, k3⟩, ⟨n0, n1, n2, n3⟩, hrb, ⟨f0, f1, f2, f3⟩, hbw⟩ := KX.out w3 HB3.out; have HRB := hid hrb; obtain ⟨r0, r1, r2, r3⟩ := hrb; have HK3 := hid hbw; obtain ⟨⟨t0, t1, t2, t3⟩, ⟨d0, d1, d2, d3⟩, p0, p1⟩ := KO.out w3 hbw; clear hbw))
    all_goals
      go_wp2_with fail
      generalize hZ : ((((w3.setCell _ (.int .i64 rk)).setCell _ (.string rx)).setCell _ (.int .i64 rc)).setCell _ (.slice A6 rs.length c6)) = Z
      obtain ⟨⟨e0, e1, e2, e3⟩, hZs, hZB, hZo, _, _⟩ := zC4 (o := 0) HRB.out.1 HRB.out.2.1 HRB.out.2.2.1 HRB.out.2.2.2 _ _ _ _ hZ.symm
      simp only [Nat.zero_add] at e1 e2 e3
      have HZB := hid (hZB w.heap.size w (by omega) HK3.out)
      have HZO := hid hZo
      have HZS := hid hZs
      clear hZ hZs hZB hZo
      refine bodyPost_ret (v := .agg #[.int .i64 rk, .string rx, .int .i64 rc, .slice A6 rs.length c6]) (by simp [results, Tryz.results80, go_sem, e0, e1, e2, e3]) rfl ?_
      have HXS := HXS.out
      have HZS := HZS.out
      refine ⟨_, rfl, HR3.out.keep (fun q hq => HZO.out q ?_) (fun q hq => ?_), HZB.out⟩
      · rcases hq with hq | hq
        · have := HSS.out _ hq; omega
        · omega
      · rcases hq with hq | hq
        · exact .inl hq
        · exact .inr ⟨by omega, by omega⟩
def zA9 (l:List Tree) (slot:Int):Bool:=decide (l.length = 1) && (zAf (rowT l) && (decide (0≤slot) && (decide (slot < (l.headD zAx).kids.length) && decide ((kidS (l.headD zAx) slot).kids.length = 0))))
set_option maxHeartbeats 4000000 in
theorem zKw (l:List Tree) (slot:Int) (A:Option Addr) (cap:Nat) (w:World) (hv:zAa zAb w (Lt w.heap.size) l (.slice A l.length cap)) (hct:zAd l≤1000000) :
  Calls Tryz.prog 113 #[.slice A l.length cap,.int .i64 slot] w fun e w'=>e = .returned (.bool (zA9 l slot))∧Below w.heap.size w w':=by
 by_cases h1:l.length = 1
 rotate_left
 ·have hf:zA9 l slot = false:=by unfold zA9;simp [h1]
  rw [hf]
  have i0:((l.length:Int) == 1) = false:=by simp;omega
  clear hv hct hf
  go_enter Tryz.func113,Tryz.ntmps113
  go_wp2_with fail
  go_ret
  exact ⟨rfl,Below.refl _ _⟩
 obtain ⟨t,rfl⟩:∃ t,l = [t]:=List.length_eq_one_iff.1 h1
 clear h1
 have C1:=zFi [t] A cap w hv (by omega)
 have HC1:=hid C1
 clear C1
 simp only [List.length_cons,List.length_nil,Nat.zero_add] at hv HC1 ⊢
 have hv0:=hv
 obtain ⟨_,_,rs0,hq,_,_,hrd0,hls0⟩:=hv0
 cases hq
 obtain ⟨g,o,A1,c1,rs1,rfl,hg,t0,t1,t2,t3,b1,b2,b3,b4,b5,hrd1,hls1⟩:=zAy hrd0 hls0 (k:=0) (by simp)
 simp only [Nat.zero_mul,Nat.add_zero,List.getElem_cons_zero] at t0 t1 t2 t3 b1 b2 b3 b4 b5 hrd1 hls1
 have hgl:g < w.heap.size:=hg
 have HT3:Hid (∀ W,Below w.heap.size w W→W.cell? ⟨g,o + 3,none⟩ = some (.slice A1 t.kids.length c1)):=fun W hW=>(hW.cell (p:=⟨g,_,none⟩) hgl).trans t3
 have hS:zA9 [t] slot = (zAf (rowT [t]) && (decide (0≤slot) && (decide (slot < t.kids.length) && decide ((kidS t slot).kids.length = 0)))):=by unfold zA9;simp
 rw [hS]
 generalize zAf (rowT [t]) = bv at *
 cases bv
 ·clear hv hct hrd0 hls0 hrd1 hls1 t0 t1 t2 t3 hS
  go_enter Tryz.func113,Tryz.ntmps113
  go_wp2_with fail
  refine HC1.out.mono ?_
  rintro e w1 ⟨rfl,hb1⟩
  have HB1:=hid hb1
  clear hb1
  go_wp2_with fail
  go_ret
  exact ⟨rfl,HB1.out⟩
 by_cases h2:0≤slot
 rotate_left
 ·have i1:decide (0≤slot) = false:=by simpa using h2
  rw [i1]
  clear hv hct hrd0 hls0 hrd1 hls1 t0 t1 t2 t3 hS
  go_enter Tryz.func113,Tryz.ntmps113
  go_wp2_with fail
  refine HC1.out.mono ?_
  rintro e w1 ⟨rfl,hb1⟩
  have HB1:=hid hb1
  clear hb1
  go_wp2_with fail
  go_ret
  exact ⟨rfl,HB1.out⟩
 have i1:decide (0≤slot) = true:=by simpa using h2
 by_cases h3:slot < t.kids.length
 rotate_left
 ·have i2:decide (slot < (t.kids.length:Int)) = false:=by simpa using h3
  rw [i1,i2]
  clear hv hct hrd0 hls0 hrd1 hls1 t0 t1 t2 t3 hS
  go_enter Tryz.func113,Tryz.ntmps113
  go_wp2_with fail
  refine HC1.out.mono ?_
  rintro e w1 ⟨rfl,hb1⟩
  have HB1:=hid hb1
  have t3:=HT3.out w1 hb1
  clear hb1
  go_wp2_with fail
  go_ret
  exact ⟨rfl,HB1.out⟩
 have i2:decide (slot < (t.kids.length:Int)) = true:=by simpa using h3
 obtain ⟨s',hs'⟩:∃ s':Nat,slot = s':=⟨slot.toNat,by omega⟩
 have h4:s' < t.kids.length:=by omega
 obtain ⟨g2,o2,A2,c2,rs2,rfl,hg2,d0,d1,d2,d3,a1,a2,a3,a4,a5,hrd2,hls2⟩:=zAy hrd1 hls1 h4
 have hgl2:g2 < w.heap.size:=hg2
 have HD3:Hid (∀ W,Below w.heap.size w W→W.cell? ⟨g2,o2 + s' * 4 + 3,none⟩ = some (.slice A2 t.kids[s'].kids.length c2)):=fun W hW=>(hW.cell (p:=⟨g2,_,none⟩) hgl2).trans d3
 have hkid:kidS t slot = t.kids[s']:=by rw [hs'];unfold kidS;rw [Int.toNat_natCast,List.getD_eq_getElem?_getD,List.getElem?_eq_getElem h4];rfl
 rw [hkid,i1,i2]
 have HF:Hid ((((t.kids[s'].kids.length:Nat):Int) == 0) = decide (t.kids[s'].kids.length = 0)):=by
  show _ = _
  rw [Bool.eq_iff_iff];simp
 subst hs'
 generalize t.kids[s'].kids.length = n2 at *
 have hf:=HF.out
 generalize decide (n2 = 0) = b4 at *
 have i3:(s':Int) < (t.kids.length:Int):=by omega
 have i4:(0:Int)≤(s':Int):=by omega
 clear hv hct hrd0 hls0 hrd1 hls1 hrd2 hls2 t0 t1 t2 t3 d0 d1 d2 d3 hS hkid HF
 cases b4
 all_goals
  go_enter Tryz.func113,Tryz.ntmps113
  go_wp2_with fail
  refine HC1.out.mono ?_
  rintro e w1 ⟨rfl,hb1⟩
  have HB1:=hid hb1
  have t3:=HT3.out w1 hb1
  have d3:=HD3.out w1 hb1
  clear hb1
  go_wp2_with fail
  go_ret
  exact ⟨rfl,HB1.out⟩
end Go.Proofs.YtbjcioknfjofkaaGreat
