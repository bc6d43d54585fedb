/- Texts put together. -/
import Derived.Test.YtbjcioknfjofkaaGreatQ5f8487fc8c
import Derived.Test.YtbjcioknfjofkaaGreatQbd13932ac5
import Derived.Test.YtbjcioknfjofkaaGreatQ5a422e823d
set_option linter.unusedVariables false
set_option linter.unusedSimpArgs false
set_option maxRecDepth 100000
namespace Go.Proofs.YtbjcioknfjofkaaGreat
open Go.RowKit
theorem zJ7 {w : World} {S : Nat → Prop} : (t : Tree) → (p : List Int) → (t' : Tree) → rowS t p = some t' → zAu t → (∃ v, zAa zAb w S t.kids v) → zAu t' ∧ zAe t' ≤ zAe t
  | t, [], t', h, hok, _ => by
    simp [rowS] at h
    subst h
    exact ⟨hok, Nat.le_refl _⟩
  | t, [_], t', h, _, _ => by simp [rowS] at h
  | t, i :: k :: p, t', h, hok, hv => by
    rw [rowS] at h
    split at h
    · rename_i hi
      split at h
      · rename_i hk
        obtain ⟨v, A, cap, cs, rfl, _, _, _, hl⟩ := hv
        obtain ⟨c, _, hR, _⟩ := hl.at_ hi.2
        obtain ⟨v1, rfl, a1, a2, a3, hv1⟩ := zB1.1 hR
        obtain ⟨A1, cap1, cs1, rfl, _, _, _, hl1⟩ := hv1
        obtain ⟨c1, _, hR1, _⟩ := hl1.at_ hk.2
        obtain ⟨v2, rfl, b1, b2, b3, hv2⟩ := zB1.1 hR1
        obtain ⟨q1, q2⟩ := zJ7 (w := w) (S := S) _ p t' h ⟨b1, b2, b3⟩ ⟨v2, hv2⟩
        refine ⟨q1, ?_⟩
        have e1 : zAe t.kids[i.toNat] ≤ zAe t := by
          rw [zA7 t]
          have := zBa hi.2
          have := zAo t.kids (i.toNat + 1)
          omega
        have e2 : zAe t.kids[i.toNat].kids[k.toNat] ≤ zAe t.kids[i.toNat] := by
          rw [zA7 t.kids[i.toNat]]
          have := zBa hk.2
          have := zAo t.kids[i.toNat].kids (k.toNat + 1)
          omega
        omega
      · cases h
    · cases h
def RowQ (w:World) (x:Tree) (er:Int) (e:Ending) (w':World):Prop :=
 ∃ v,e = .returned (.tuple #[.agg #[.int .i64 x.kind,.string x.text,.int .i64 x.cols,v],.int .i64 er])∧zAa zAb w' (fun k=>w.heap.size≤k∧k < w'.heap.size) x.kids v∧Below w.heap.size w w'
set_option maxHeartbeats 2000000 in
theorem zKi (t:Tree) (p:List Int) (A Ap:Option Addr) (cap cp:Nat) (w:World) (hv:zAa zAb w (Lt w.heap.size) t.kids (.slice A t.kids.length cap)) (hok:zAu t) (hct:zAe t≤900000) (hp:zAh w (Lt w.heap.size) p (.slice Ap p.length cp)) :
  Calls Tryz.prog 69 #[.agg #[.int .i64 t.kind,.string t.text,.int .i64 t.cols,.slice A t.kids.length cap],.slice Ap p.length cp] w (RowQ w (zAg t p).1 (zAg t p).2):=by
 have C1:Hid (∀ W,Below w.heap.size w W→Calls Tryz.prog 49 #[.agg #[.int .i64 t.kind,.string t.text,.int .i64 t.cols,.slice A t.kids.length cap]] W fun e w'=>e = .returned (.bool (zAf t))∧Below W.heap.size W w'):=fun W hW=>zCc t A cap W (hv.below hW hW.size) hok.2.2
 have C2:Hid (∀ W,Below w.heap.size w W→W.cell? ⟨w.heap.size,0,none⟩ = some (.int .i64 t.kind)∧W.cell? ⟨w.heap.size,1,none⟩ = some (.string t.text)∧W.cell? ⟨w.heap.size,2,none⟩ = some (.int .i64 t.cols)∧W.cell? ⟨w.heap.size,3,none⟩ = some (.slice A t.kids.length cap)→w.heap.size < W.heap.size →
   Calls Tryz.prog 104 #[.pointer (some ⟨w.heap.size,0,none⟩),.slice Ap p.length cp] W (FindP W (rowS t p))):=fun W hW hc hz=>by
  obtain ⟨_,_,rs,hq,h1,h2,h3,h4⟩:=hv.below hW hW.size
  cases hq
  exact zG0 t p w.heap.size 0 A cap rs _ W ⟨by simpa using hc,hz,hok.2.2,h1,h2,h3,h4⟩ (hp.below hW hW.size)
 have C3:Hid (∀ t',rowS t p = some t'→zAu t'∧zAe t'≤1000000):=fun t' h=>by
  obtain ⟨h1,h2⟩:=zJ7 t p t' h hok ⟨_,hv⟩
  exact ⟨h1,by omega⟩
 have HR:Hid (zAg t p = if zAf t = false then (zAx,(1:Int)) else match rowS t p with | none=>(zAx,(8:Int)) | some x=>(x,(0:Int))):=by
  show zAg t p = _
  rw [zAg,zEw]
  cases zAf t <;> cases (zAm t p).2 <;> simp
 generalize zAg t p = r at *
 generalize rowS t p = f at *
 generalize zAf t = b1 at *
 obtain ⟨tk,tx,tc,ts⟩:=t
 obtain ⟨⟨rk,rx,rc,rt⟩,re⟩:=r
 simp only [Tree.kind,Tree.text,Tree.cols,Tree.kids] at *
 clear hv hok hct hp
 generalize hW0:(w.alloc (Obj.cells #[.int .i64 tk,.string tx,.int .i64 tc,.slice A ts.length cap] 24)).alloc (.cells #[.int .i64 0,.string ⟨#[]⟩,.int .i64 0,.slice none 0 0] 24) = W0
 have KB:Hid (∀ W,Below W0.heap.size W0 W→(W.cell? ⟨w.heap.size,0,none⟩ = some (.int .i64 tk)∧W.cell? ⟨w.heap.size,1,none⟩ = some (.string tx)∧W.cell? ⟨w.heap.size,2,none⟩ = some (.int .i64 tc)∧W.cell? ⟨w.heap.size,3,none⟩ = some (.slice A ts.length cap)) ∧
   (W.cell? ⟨w.heap.size + 1,0,none⟩ = some (.int .i64 0)∧W.cell? ⟨w.heap.size + 1,1,none⟩ = some (.string ⟨#[]⟩)∧W.cell? ⟨w.heap.size + 1,2,none⟩ = some (.int .i64 0)∧W.cell? ⟨w.heap.size + 1,3,none⟩ = some (.slice none 0 0)) ∧
   (W.frozen? ⟨w.heap.size + 1,0,none⟩ = false∧W.frozen? ⟨w.heap.size + 1,1,none⟩ = false∧W.frozen? ⟨w.heap.size + 1,2,none⟩ = false∧W.frozen? ⟨w.heap.size + 1,3,none⟩ = false)∧Below w.heap.size w W∧w.heap.size + 1 < W.heap.size):=by
  intro W hW
  have hz:W0.heap.size = w.heap.size + 1 + 1:=by rw [← hW0];simp
  have hc:=(bcell hW).1
  have hf:=(bcell hW).2
  have hbb:Below w.heap.size w W0:=by rw [← hW0];exact zCb (zAt _ _) _
  refine ⟨⟨(hc _ _ (by omega)).trans ?_,(hc _ _ (by omega)).trans ?_,(hc _ _ (by omega)).trans ?_,(hc _ _ (by omega)).trans ?_⟩,⟨(hc _ _ (by omega)).trans ?_,(hc _ _ (by omega)).trans ?_,(hc _ _ (by omega)).trans ?_,(hc _ _ (by omega)).trans ?_⟩,⟨(hf _ _ (by omega)).trans ?_,(hf _ _ (by omega)).trans ?_,(hf _ _ (by omega)).trans ?_,(hf _ _ (by omega)).trans ?_⟩,hbb.trans (hW.mono hbb.size),by have:=hW.size;omega⟩
  all_goals (rw [← hW0];first | exact zD1 _ _ _ _ _ _ rfl | exact na_c _ _ _ _ _ (by simp) | exact na_f _ _ _ _ _ (by simp))
 rcases b1 with _ | _
 ·clear C2 C3
  obtain ⟨⟨m0,m1,m2,m3⟩,⟨c0,c1,c2,c3⟩,⟨f0,f1,f2,f3⟩,hbw0,hz0⟩:=KB.out W0 (Below.refl _ _)
  have HBW0:=hid hbw0
  clear hbw0
  go_enter Tryz.func69,Tryz.ntmps69
  go_wp2_with fail
  refine (C1.out _ HBW0.out).mono ?_
  rintro e w1 ⟨rfl,hb1⟩
  clear m0 m1 m2 m3 c0 c1 c2 c3 f0 f1 f2 f3 hz0
  obtain ⟨⟨m0,m1,m2,m3⟩,hr1,⟨f0,f1,f2,f3⟩,hbw1,hz1⟩:=KB.out w1 hb1
  have HBL1:=hid hb1
  have HBW1:=hid hbw1
  obtain ⟨c0,c1,c2,c3⟩:=hr1
  have HR1:=hid (And.intro c0 (And.intro c1 (And.intro c2 c3)))
  clear hb1 hbw1
  go_wp2_with fail
  generalize hW:(((w1.setCell _ (.int .i64 0)).setCell _ (.string ⟨#[]⟩)).setCell _ (.int .i64 0)).setCell _ (.slice none 0 0) = W
  obtain ⟨⟨r0,r1,r2,r3⟩,rz,rb,ro,_⟩:=four HR1.out.1 HR1.out.2.1 HR1.out.2.2.1 HR1.out.2.2.2 _ _ _ _ hW.symm
  have HB':=hid (rb w.heap.size w (by omega) HBW1.out)
  have HRO:Hid (∀ q:Addr,q.block≠w.heap.size + 1→W.cell? q = (w1).cell? q):=ro
  clear hW ro rb
  refine bodyPost_ret (v:=.tuple #[.agg #[.int .i64 0,.string ⟨#[]⟩,.int .i64 0,.slice none 0 0],.int .i64 1]) (by simp [results,Tryz.results69,go_sem,r0,r1,r2,r3]) rfl ?_
  have h:=HR.out
  simp [zAx] at h
  obtain ⟨⟨h1,h2,h3,h4⟩,h5⟩:=h
  refine ⟨.slice none 0 0,by rw [h5];simp only [h1,h2,h3];rfl,by simp only [h4];exact zAa.nil_ 0 (Nat.zero_le _) none,HB'.out⟩
 rcases f with _ | t'
 ·obtain ⟨⟨m0,m1,m2,m3⟩,⟨c0,c1,c2,c3⟩,⟨f0,f1,f2,f3⟩,hbw0,hz0⟩:=KB.out W0 (Below.refl _ _)
  have HBW0:=hid hbw0
  clear hbw0
  go_enter Tryz.func69,Tryz.ntmps69
  go_wp2_with fail
  refine (C1.out _ HBW0.out).mono ?_
  rintro e w1 ⟨rfl,hb1⟩
  clear m0 m1 m2 m3 c0 c1 c2 c3 f0 f1 f2 f3 hz0
  obtain ⟨⟨m0,m1,m2,m3⟩,hr1,⟨f0,f1,f2,f3⟩,hbw1,hz1⟩:=KB.out w1 hb1
  have HBL1:=hid hb1
  have HBW1:=hid hbw1
  obtain ⟨c0,c1,c2,c3⟩:=hr1
  have HR1:=hid (And.intro c0 (And.intro c1 (And.intro c2 c3)))
  clear hb1 hbw1
  go_wp2_with fail
  refine (C2.out _ HBW1.out ⟨m0,m1,m2,m3⟩ (by omega)).mono ?_
  rintro e w2 ⟨⟨n2,rfl⟩,⟨_,q2,rfl⟩ | ⟨t',g,o,A',cap',rs,h,_⟩⟩
  case inr=>cases h
  obtain ⟨w2,hw2⟩:∃ w2,w2 = w1.drewN n2:=⟨_,rfl⟩
  rw [← hw2]
  have hb2:Below w1.heap.size w1 w2:=by rw [hw2];exact zBw (Below.refl _ _) n2
  clear m0 m1 m2 m3 c0 c1 c2 c3 f0 f1 f2 f3 hw2 hz1
  have HBL2:=hid (HBL1.out.trans (hb2.mono HBL1.out.size))
  obtain ⟨⟨m0,m1,m2,m3⟩,hr2,⟨f0,f1,f2,f3⟩,hbw2,hz2⟩:=KB.out w2 HBL2.out
  have HBW2:=hid hbw2
  obtain ⟨c0,c1,c2,c3⟩:=hr2
  have HR2:=hid (And.intro c0 (And.intro c1 (And.intro c2 c3)))
  clear hb2 hbw2
  go_wp2_with fail
  generalize hW:(((w2.setCell _ (.int .i64 0)).setCell _ (.string ⟨#[]⟩)).setCell _ (.int .i64 0)).setCell _ (.slice none 0 0) = W
  obtain ⟨⟨r0,r1,r2,r3⟩,rz,rb,ro,_⟩:=four HR2.out.1 HR2.out.2.1 HR2.out.2.2.1 HR2.out.2.2.2 _ _ _ _ hW.symm
  have HB':=hid (rb w.heap.size w (by omega) HBW2.out)
  have HRO:Hid (∀ q:Addr,q.block≠w.heap.size + 1→W.cell? q = w2.cell? q):=ro
  clear hW ro rb
  refine bodyPost_ret (v:=.tuple #[.agg #[.int .i64 0,.string ⟨#[]⟩,.int .i64 0,.slice none 0 0],.int .i64 8]) (by simp [results,Tryz.results69,go_sem,r0,r1,r2,r3]) rfl ?_
  have h:=HR.out
  simp [zAx] at h
  obtain ⟨⟨h1,h2,h3,h4⟩,h5⟩:=h
  refine ⟨.slice none 0 0,by rw [h5];simp only [h1,h2,h3];rfl,by simp only [h4];exact zAa.nil_ 0 (Nat.zero_le _) none,HB'.out⟩
 ·obtain ⟨⟨m0,m1,m2,m3⟩,⟨c0,c1,c2,c3⟩,⟨f0,f1,f2,f3⟩,hbw0,hz0⟩:=KB.out W0 (Below.refl _ _)
  have HBW0:=hid hbw0
  clear hbw0
  go_enter Tryz.func69,Tryz.ntmps69
  go_wp2_with fail
  refine (C1.out _ HBW0.out).mono ?_
  rintro e w1 ⟨rfl,hb1⟩
  clear m0 m1 m2 m3 c0 c1 c2 c3 f0 f1 f2 f3 hz0
  obtain ⟨⟨m0,m1,m2,m3⟩,hr1,⟨f0,f1,f2,f3⟩,hbw1,hz1⟩:=KB.out w1 hb1
  have HBL1:=hid hb1
  have HBW1:=hid hbw1
  obtain ⟨c0,c1,c2,c3⟩:=hr1
  have HR1:=hid (And.intro c0 (And.intro c1 (And.intro c2 c3)))
  clear hb1 hbw1
  go_wp2_with fail
  refine (C2.out _ HBW1.out ⟨m0,m1,m2,m3⟩ (by omega)).mono ?_
  rintro e w2 ⟨⟨n2,rfl⟩,⟨h,_⟩ | ⟨t'',g,o,A',cap',rs,h,rfl,⟨d0,d1,d2,d3⟩,hgl,htx,hk1,hk2,hk3,hk4⟩⟩
  case inl=>cases h
  cases h
  obtain ⟨w2,hw2⟩:∃ w2,w2 = w1.drewN n2:=⟨_,rfl⟩
  rw [← hw2]
  have hb2:Below w1.heap.size w1 w2:=by rw [hw2];exact zBw (Below.refl _ _) n2
  have hv2:zAa zAb w2 (Lt w2.heap.size) t'.kids (.slice A' t'.kids.length cap'):=zAa.below (B:=w1.heap.size) ⟨A',cap',rs,rfl,hk1,hk2,hk3,hk4⟩ hb2 hb2.size
  replace d0:w2.cell? ⟨g,o,none⟩ = some (.int .i64 t'.kind):=by rw [hw2];exact d0
  replace d1:w2.cell? ⟨g,o + 1,none⟩ = some (.string t'.text):=by rw [hw2];exact d1
  replace d2:w2.cell? ⟨g,o + 2,none⟩ = some (.int .i64 t'.cols):=by rw [hw2];exact d2
  replace d3:w2.cell? ⟨g,o + 3,none⟩ = some (.slice A' t'.kids.length cap'):=by rw [hw2];exact d3
  clear m0 m1 m2 m3 c0 c1 c2 c3 f0 f1 f2 f3 hw2 hz1 hk1 hk2 hk3 hk4 hgl htx
  have HBL2:=hid (HBL1.out.trans (hb2.mono HBL1.out.size))
  clear hb2
  go_wp2_with fail
  refine (zDq t' A' cap' w2 hv2 (C3.out _ rfl).1 (C3.out _ rfl).2).mono ?_
  intro e w3 h3
  obtain ⟨v3,rfl,hr3,hb3⟩:=h3
  obtain ⟨A3,c3n,rfl⟩:=hr3.form
  have HR3:=hid hr3
  have HBL3:=hid (HBL2.out.trans (hb3.mono HBL2.out.size))
  obtain ⟨hm3,hr3',⟨f0,f1,f2,f3⟩,hbw3,hz3⟩:=KB.out w3 HBL3.out
  have HBW3:=hid hbw3
  obtain ⟨c0,c1,c2,c3⟩:=hr3'
  have HRR:=hid (And.intro c0 (And.intro c1 (And.intro c2 c3)))
  have HZ2:Hid (w.heap.size + 1 < w2.heap.size):=by obtain ⟨_,_,_,_,h⟩:=KB.out w2 HBL2.out;exact h
  clear hb3 hbw3 hm3 hr3 d0 d1 d2 d3 hv2
  go_wp2_with fail
  generalize hW:(((w3.setCell _ (.int .i64 t'.kind)).setCell _ (.string t'.text)).setCell _ (.int .i64 t'.cols)).setCell _ (.slice A3 t'.kids.length c3n) = W
  obtain ⟨⟨r0,r1,r2,r3⟩,rz,rb,ro,_⟩:=four HRR.out.1 HRR.out.2.1 HRR.out.2.2.1 HRR.out.2.2.2 _ _ _ _ hW.symm
  have HB':=hid (rb w.heap.size w (by omega) HBW3.out)
  have HRO:Hid (∀ q:Addr,q.block≠w.heap.size + 1→W.cell? q = w3.cell? q):=ro
  clear hW ro rb
  refine bodyPost_ret (v:=.tuple #[.agg #[.int .i64 t'.kind,.string t'.text,.int .i64 t'.cols,.slice A3 t'.kids.length c3n],.int .i64 0]) (by simp [results,Tryz.results69,go_sem,r0,r1,r2,r3]) rfl ?_
  have h:=HR.out
  simp at h
  obtain ⟨rfl,rfl⟩:=h
  refine ⟨_,rfl,HR3.out.keep (fun q hq=>HRO.out q (Nat.ne_of_gt (Nat.lt_of_lt_of_le HZ2.out hq.1))) (fun q hq=>⟨by have:=HZ2.out;omega,by rw [rz];exact hq.2⟩),HB'.out⟩
def zFp (t:Tree) (p:List Int) (l:List Tree):Tree × Int :=
 if zAf t = false then (zAx,1) else if (zAm t p).2 = false then (zAx,8) else if zAf (rowT l) = false then (zAx,4) else if zAf (putS t p l) = false then (zAx,6) else (putS t p l,0)
def FB (W:World) (b:Nat) (x0 x1 x2 x3:Value):Prop:=(W.cell? ⟨b,0,none⟩ = some x0∧W.cell? ⟨b,1,none⟩ = some x1∧W.cell? ⟨b,2,none⟩ = some x2∧W.cell? ⟨b,3,none⟩ = some x3)∧(W.frozen? ⟨b,0,none⟩ = false∧W.frozen? ⟨b,1,none⟩ = false∧W.frozen? ⟨b,2,none⟩ = false∧W.frozen? ⟨b,3,none⟩ = false)
theorem FB.new (w:World) (x0 x1 x2 x3:Value) (T:TypeId) {b:Nat} (hb:b = w.heap.size):FB (w.alloc (.cells #[x0,x1,x2,x3] T)) b x0 x1 x2 x3:=by
 subst hb
 exact ⟨⟨newC _ _ _ _ _ rfl,newC _ _ _ _ _ rfl,newC _ _ _ _ _ rfl,newC _ _ _ _ _ rfl⟩,newF _ _ _ _ _ rfl,newF _ _ _ _ _ rfl,newF _ _ _ _ _ rfl,newF _ _ _ _ _ rfl⟩
theorem FB.below {W W':World} {B b:Nat} {x0 x1 x2 x3:Value} (h:FB W b x0 x1 x2 x3) (hb:Below B W W') (hB:b < B):FB W' b x0 x1 x2 x3 :=
 ⟨⟨(hb.cell (p:=⟨b,0,none⟩) hB).trans h.1.1,(hb.cell (p:=⟨b,1,none⟩) hB).trans h.1.2.1,(hb.cell (p:=⟨b,2,none⟩) hB).trans h.1.2.2.1,(hb.cell (p:=⟨b,3,none⟩) hB).trans h.1.2.2.2⟩,(hb.frozen (p:=⟨b,0,none⟩) hB).trans h.2.1,(hb.frozen (p:=⟨b,1,none⟩) hB).trans h.2.2.1,(hb.frozen (p:=⟨b,2,none⟩) hB).trans h.2.2.2.1,(hb.frozen (p:=⟨b,3,none⟩) hB).trans h.2.2.2.2⟩
theorem Loc.keepB {W W':World} {T:Nat→Prop} {B:Nat} (hb:Below B W W') (hT:∀ k,T k→k < B) {g o g' o':Nat} {t:Tree} {p:List Nat} (hg:g < B) (h:Loc W T g o t p g' o'):Loc W' T g o t p g' o':=by
 induction h with
 | here g o t=>exact .here g o t
 | step g o t i p b x c hi g' o' h1 h2 h3 ih=>exact .step g o t i p b x c hi g' o' ((hb.cell (p:=⟨g,o + 3,none⟩) hg).trans h1) h2 (ih (hT _ h2))
set_option maxHeartbeats 4000000 in
theorem with_any (t:Tree) (p:List Int) (l:List Tree) (A Ap Al:Option Addr) (cap cp cl:Nat) (w:World) (hv:zAa zAb w (Lt w.heap.size) t.kids (.slice A t.kids.length cap)) (hok:zAu t) (hct:zAe t≤900000) (hp:zAh w (Lt w.heap.size) p (.slice Ap p.length cp)) (hl:zAa zAb w (Lt w.heap.size) l (.slice Al l.length cl)) :
  Calls Tryz.prog 87 #[.agg #[.int .i64 t.kind,.string t.text,.int .i64 t.cols,.slice A t.kids.length cap],.slice Ap p.length cp,.agg #[.int .i64 1,.string ⟨#[]⟩,.int .i64 0,.slice Al l.length cl]] w (RowQ w (zFp t p l).1 (zFp t p l).2):=by
 have C1:Hid (∀ W,Below w.heap.size w W→Calls Tryz.prog 49 #[.agg #[.int .i64 t.kind,.string t.text,.int .i64 t.cols,.slice A t.kids.length cap]] W fun e w'=>e = .returned (.bool (zAf t))∧Below W.heap.size W w'):=fun W hW=>zCc t A cap W (hv.below hW hW.size) hok.2.2
 have C2:Hid (∀ W,Below w.heap.size w W→Calls Tryz.prog 51 #[.agg #[.int .i64 t.kind,.string t.text,.int .i64 t.cols,.slice A t.kids.length cap]] W (CopyU W t)):=fun W hW=>zDt t A cap W (hv.below hW hW.size) hok (by omega)
 have C3:Hid (∀ W T B,Below w.heap.size w W→(∀ k,T k→k < W.heap.size)→B < W.heap.size→zC3 W T B 0 t→Calls Tryz.prog 104 #[.pointer (some ⟨B,0,none⟩),.slice Ap p.length cp] W (FindL W T B 0 t p)):=fun W T B hW hT hB hN=>zKh t p B 0 _ W T hT hB hN (hp.below hW hW.size)
 have C4:Hid (∀ W,Below w.heap.size w W→Calls Tryz.prog 49 #[.agg #[.int .i64 1,.string ⟨#[]⟩,.int .i64 0,.slice Al l.length cl]] W fun e w'=>e = .returned (.bool (zAf (rowT l)))∧Below W.heap.size W w'):=fun W hW=>zCc (rowT l) Al cl W (hl.below hW hW.size) (zHv l).2.2
 have C5:Hid (zAf (rowT l) = true→∀ W,Below w.heap.size w W→Calls Tryz.prog 51 #[.agg #[.int .i64 1,.string ⟨#[]⟩,.int .i64 0,.slice Al l.length cl]] W fun e w'=>∃ v,e = .returned (.agg #[.int .i64 1,.string ⟨#[]⟩,.int .i64 0,v])∧zAa zAb w' (fun k=>W.heap.size≤k∧k < w'.heap.size) l v∧Below W.heap.size W w'):=fun h9 W hW=>zDq (rowT l) Al cl W (hl.below hW hW.size) (zHv l) (by have:=(zA0 h9).1;omega)
 have C6:Hid (∀ W A' c',zAa zAb W (Lt W.heap.size) (putS t p l).kids (.slice A' (putS t p l).kids.length c')→Calls Tryz.prog 49 #[.agg #[.int .i64 (putS t p l).kind,.string (putS t p l).text,.int .i64 (putS t p l).cols,.slice A' (putS t p l).kids.length c']] W fun e w'=>e = .returned (.bool (zAf (putS t p l)))∧Below W.heap.size W w'):=fun W A' c' h=>zCc (putS t p l) A' c' W h (zKc t p l hok).2.2
 have HR:Hid (zFp t p l = if zAf t = false then (zAx,1) else if (zAm t p).2 = false then (zAx,8) else if zAf (rowT l) = false then (zAx,4) else if zAf (putS t p l) = false then (zAx,6) else (putS t p l,0)):=rfl
 have HFR:=hid (zEw t p)
 have HOK:=hid hok
 generalize zFp t p l = RES at *
 generalize hbv:zAf t = bv at *
 generalize hbr:zAf (rowT l) = br at *
 generalize hbp:zAf (putS t p l) = bp at *
 clear hv hct hp hl hbv hbr hbp hok
 obtain ⟨W0,hW0⟩:∃ W0,((w.alloc (Obj.cells #[.int .i64 t.kind,.string t.text,.int .i64 t.cols,.slice A t.kids.length cap] 24)).alloc (Obj.cells #[.int .i64 1,.string ⟨#[]⟩,.int .i64 0,.slice Al l.length cl] 24)).alloc (.cells #[.int .i64 0,.string ⟨#[]⟩,.int .i64 0,.slice none 0 0] 24) = W0:=⟨_,rfl⟩
 have HW0Z:Hid (W0.heap.size = w.heap.size + 1 + 1 + 1):=by show _ = _;rw [← hW0];simp
 have KB:Hid (∀ W,Below W0.heap.size W0 W→FB W w.heap.size (.int .i64 t.kind) (.string t.text) (.int .i64 t.cols) (.slice A t.kids.length cap)∧FB W (w.heap.size + 1) (.int .i64 1) (.string ⟨#[]⟩) (.int .i64 0) (.slice Al l.length cl)∧FB W (w.heap.size + 1 + 1) (.int .i64 0) (.string ⟨#[]⟩) (.int .i64 0) (.slice none 0 0)∧Below w.heap.size w W∧w.heap.size + 3≤W.heap.size):=by
  intro W hW
  have hz:W0.heap.size = w.heap.size + 1 + 1 + 1:=by rw [← hW0];simp
  refine ⟨FB.below (B:=W0.heap.size) ?_ hW (by omega),FB.below (B:=W0.heap.size) ?_ hW (by omega),FB.below (B:=W0.heap.size) ?_ hW (by omega),Below.trans ?_ (hW.mono (by omega)),by have:=hW.size;omega⟩
  ·rw [← hW0];exact ((FB.new w _ _ _ _ _ rfl).below (blA _ _) (by simp)).below (blA _ _) (by simp;omega)
  ·rw [← hW0];exact (FB.new _ _ _ _ _ _ (by simp)).below (blA _ _) (by simp)
  ·rw [← hW0];exact FB.new _ _ _ _ _ _ (by simp)
  ·rw [← hW0];exact zAp (zAp (blA _ _) _) _
 obtain ⟨⟨⟨m0,m1,m2,m3⟩,_⟩,⟨⟨n0,n1,n2,n3⟩,_⟩,⟨⟨c0,c1,c2,c3⟩,⟨f0,f1,f2,f3⟩⟩,hbw0,hz0⟩:=KB.out W0 (Below.refl _ _)
 have HBW0:=hid hbw0
 clear hbw0
 go_enter Tryz.func87,Tryz.ntmps87
 go_wp2_with fail
 refine (C1.out _ HBW0.out).mono ?_
 rintro e w1 ⟨rfl,hb1⟩
 clear m0 m1 m2 m3 n0 n1 n2 n3 c0 c1 c2 c3 f0 f1 f2 f3 hz0
 have HB1:=hid hb1
 obtain ⟨⟨⟨m0,m1,m2,m3⟩,_⟩,⟨⟨n0,n1,n2,n3⟩,_⟩,⟨⟨c0,c1,c2,c3⟩,⟨f0,f1,f2,f3⟩⟩,hbw1,hz1⟩:=KB.out w1 hb1
 have HBW1:=hid hbw1
 clear hb1 hbw1
 cases bv
 ·have HC:=hid (And.intro c0 (And.intro c1 (And.intro c2 c3)))
  go_wp2_with fail
  generalize hW:(((w1.setCell _ (.int .i64 0)).setCell _ (.string ⟨#[]⟩)).setCell _ (.int .i64 0)).setCell _ (.slice none 0 0) = W
  obtain ⟨⟨r0,r1,r2,r3⟩,rz,rb,ro,_⟩:=four HC.out.1 HC.out.2.1 HC.out.2.2.1 HC.out.2.2.2 _ _ _ _ hW.symm
  have HB':=hid (rb w.heap.size w (by omega) HBW1.out)
  clear hW ro rb
  refine bodyPost_ret (v:=.tuple #[.agg #[.int .i64 0,.string ⟨#[]⟩,.int .i64 0,.slice none 0 0],.int .i64 1]) (by simp [results,Tryz.results87,go_sem,r0,r1,r2,r3]) rfl ?_
  rw [HR.out]
  exact ⟨_,rfl,zAa.nil_ 0 (Nat.zero_le _) none,HB'.out⟩
 go_wp2_with fail
 refine (C2.out _ HBW1.out).mono ?_
 rintro e w2 ⟨v,T,rfl,hb2,hT,hr2,hlin,hfree,_⟩
 obtain ⟨A4,c4,rfl⟩:=hr2.form
 obtain ⟨W3,hW3⟩:∃ W3,w2.alloc (Obj.cells #[.int .i64 t.kind,.string t.text,.int .i64 t.cols,.slice A4 t.kids.length c4] 24) = W3:=⟨_,rfl⟩
 have hb3:Below w2.heap.size w2 W3:=by rw [← hW3];exact blA _ _
 have HW3:Hid (Below W0.heap.size W0 W3):=HB1.out.trans ((hb2.trans (hb3.mono hb2.size)).mono HB1.out.size)
 have hT3:∀ k,T k→k < W3.heap.size:=fun k hk=>Nat.lt_of_lt_of_le (hT k hk).2 hb3.size
 have hBT:¬ T w2.heap.size:=fun h=>absurd (hT _ h).2 (Nat.lt_irrefl _)
 have hFB:FB W3 w2.heap.size (.int .i64 t.kind) (.string t.text) (.int .i64 t.cols) (.slice A4 t.kids.length c4):=by rw [← hW3];exact FB.new _ _ _ _ _ _ rfl
 have hN3:zC3 W3 T w2.heap.size 0 t:=⟨_,⟨hFB.1.1,hFB.1.2.1,hFB.1.2.2.1,hFB.1.2.2.2⟩,HOK.out,hr2.keep (fun q hq=>hb3.cell (hT _ hq).2) (fun _ h=>h)⟩
 have hBl:w2.heap.size < W3.heap.size:=zBd hFB.1.1
 have h02:W0.heap.size≤w2.heap.size:=Nat.le_trans HB1.out.size hb2.size
 have KC:Hid (∀ W,Below W3.heap.size W3 W→zDc W T∧(∀ k,T k→k < W.heap.size)∧zC3 W T w2.heap.size 0 t):=fun W hW=>by
  obtain ⟨u,hu1,hu2,hu3⟩:=hN3
  exact ⟨(hlin.keep (fun q hq=>hb3.cell (hT _ hq).2)).keep (fun q hq=>hW.cell (hT3 _ hq)),fun k hk=>Nat.lt_of_lt_of_le (hT3 k hk) hW.size,u,hu1.keep (fun j _=>hW.cell (p:=⟨w2.heap.size,_,none⟩) hBl),hu2,hu3.keep (fun q hq=>hW.cell (hT3 _ hq)) (fun _ h=>h)⟩
 have KF:Hid (∀ W g o t',Below W3.heap.size W3 W→zC3 W3 T g o t'→Loc W3 T w2.heap.size 0 t (p.map Int.toNat) g o→zC3 W T g o t'∧Loc W T w2.heap.size 0 t (p.map Int.toNat) g o∧(∀ j,W.frozen? ⟨g,j,none⟩ = false)∧W0.heap.size≤g∧g < W3.heap.size):=fun W g o t' hW hN hL=>by
  have hg:(g = w2.heap.size∧∀ j,W3.frozen? ⟨g,j,none⟩ = false)∨T g:=by
   rcases hL.where_ with ⟨_,h,_⟩ | h
   ·exact .inl ⟨h,fun j=>by rw [h,← hW3];exact newF _ _ _ _ _ rfl⟩
   ·exact .inr h.mem
  have hg3:g < W3.heap.size:=hg.elim (fun h=>by rw [h.1];exact hBl) (fun h=>hT3 _ h)
  obtain ⟨u,hu1,hu2,hu3⟩:=hN
  refine ⟨⟨u,hu1.keep (fun j _=>hW.cell (p:=⟨g,_,none⟩) hg3),hu2,hu3.keep (fun q hq=>hW.cell (hT3 _ hq)) (fun _ h=>h)⟩,Loc.keepB hW hT3 hBl hL,fun j=>(hW.frozen (p:=⟨g,j,none⟩) hg3).trans ?_,?_,hg3⟩
  ·rcases hg with ⟨_,h⟩ | h
   ·exact h j
   ·exact (hb3.frozen (p:=⟨g,j,none⟩) (hT _ h).2).trans (hfree g h j)
  ·rcases hg with ⟨h,_⟩ | h
   ·omega
   ·exact Nat.le_trans HB1.out.size (hT _ h).1
 have HTN:=hid hT3
 have HBT:=hid hBT
 have HTG:Hid (∀ k,T k→w1.heap.size≤k):=fun k hk=>(hT k hk).1
 have HTW:Hid (∀ k,T k→k < w2.heap.size):=fun k hk=>(hT k hk).2
 have HN3:=hid hN3
 clear m0 m1 m2 m3 n0 n1 n2 n3 c0 c1 c2 c3 f0 f1 f2 f3 hb2 hr2 hlin hfree hb3 hFB hN3 hT hT3 hBT
 obtain ⟨⟨⟨m0,m1,m2,m3⟩,_⟩,⟨⟨n0,n1,n2,n3⟩,_⟩,⟨⟨c0,c1,c2,c3⟩,⟨f0,f1,f2,f3⟩⟩,hbw3,hz3⟩:=KB.out W3 HW3.out
 have HBW3:=hid hbw3
 clear hbw3
 go_upto_region 4 with fail
 try rw [hW3]
 clear hW3
 go_wp2_with fail
 refine (C3.out W3 T w2.heap.size HBW3.out HTN.out hBl HN3.out).mono ?_
 rintro e w4 ⟨⟨nd,hw4⟩,hcase⟩
 have hb4:Below W3.heap.size W3 w4:=by rw [hw4];exact zFn (Below.refl _ _)
 have HB4:=hid hb4
 have HW4:=hid (HW3.out.trans (hb4.mono HW3.out.size))
 clear m0 m1 m2 m3 n0 n1 n2 n3 c0 c1 c2 c3 f0 f1 f2 f3
 obtain ⟨⟨⟨m0,m1,m2,m3⟩,_⟩,⟨⟨n0,n1,n2,n3⟩,_⟩,⟨⟨c0,c1,c2,c3⟩,⟨f0,f1,f2,f3⟩⟩,hbw4,hz4⟩:=KB.out w4 HW4.out
 have HBW4:=hid hbw4
 clear hb4 hbw4 hw4
 rcases hcase with ⟨hno,q,rfl⟩ | ⟨t',g,o,hso,rfl,hN',hloc⟩
 ·have HF:Hid ((zAm t p).2 = false):=by
   have h:=HFR.out
   rw [hno] at h
   cases hf:(zAm t p).2
   ·exact rfl
   ·rw [hf] at h;simp at h
  rw [if_neg (by simp),if_pos HF.out] at HR
  have HC:=hid (And.intro c0 (And.intro c1 (And.intro c2 c3)))
  go_wp2_with fail
  generalize hW:(((w4.setCell _ (.int .i64 0)).setCell _ (.string ⟨#[]⟩)).setCell _ (.int .i64 0)).setCell _ (.slice none 0 0) = W
  obtain ⟨⟨r0,r1,r2,r3⟩,rz,rb,ro,_⟩:=four HC.out.1 HC.out.2.1 HC.out.2.2.1 HC.out.2.2.2 _ _ _ _ hW.symm
  have HB':=hid (rb w.heap.size w (by omega) HBW4.out)
  clear hW ro rb
  refine bodyPost_ret (v:=.tuple #[.agg #[.int .i64 0,.string ⟨#[]⟩,.int .i64 0,.slice none 0 0],.int .i64 8]) (by simp [results,Tryz.results87,go_sem,r0,r1,r2,r3]) rfl ?_
  rw [HR.out]
  exact ⟨_,rfl,zAa.nil_ 0 (Nat.zero_le _) none,HB'.out⟩
 have HF:Hid ((zAm t p).2 = true):=by
  have h:=HFR.out
  rw [hso] at h
  cases hf:(zAm t p).2
  ·rw [hf] at h;simp at h
  ·exact rfl
 rw [if_neg (by simp),if_neg (by rw [HF.out];simp)] at HR
 have HN':=hid hN'
 have HLOC:=hid hloc
 clear hN' hloc hso HFR
 go_wp2_with fail
 refine (C4.out _ HBW4.out).mono ?_
 rintro e w5 ⟨rfl,hb5⟩
 have HB5:=hid (HB4.out.trans (hb5.mono HB4.out.size))
 have HW5:=hid (HW4.out.trans (hb5.mono HW4.out.size))
 clear m0 m1 m2 m3 n0 n1 n2 n3 c0 c1 c2 c3 f0 f1 f2 f3
 obtain ⟨⟨⟨m0,m1,m2,m3⟩,_⟩,⟨⟨n0,n1,n2,n3⟩,_⟩,⟨⟨c0,c1,c2,c3⟩,⟨f0,f1,f2,f3⟩⟩,hbw5,hz5⟩:=KB.out w5 HW5.out
 have HBW5:=hid hbw5
 clear hb5 hbw5
 cases br
 ·rw [if_pos rfl] at HR
  have HC:=hid (And.intro c0 (And.intro c1 (And.intro c2 c3)))
  go_wp2_with fail
  generalize hW:(((w5.setCell _ (.int .i64 0)).setCell _ (.string ⟨#[]⟩)).setCell _ (.int .i64 0)).setCell _ (.slice none 0 0) = W
  obtain ⟨⟨r0,r1,r2,r3⟩,rz,rb,ro,_⟩:=four HC.out.1 HC.out.2.1 HC.out.2.2.1 HC.out.2.2.2 _ _ _ _ hW.symm
  have HB':=hid (rb w.heap.size w (by omega) HBW5.out)
  clear hW ro rb
  refine bodyPost_ret (v:=.tuple #[.agg #[.int .i64 0,.string ⟨#[]⟩,.int .i64 0,.slice none 0 0],.int .i64 4]) (by simp [results,Tryz.results87,go_sem,r0,r1,r2,r3]) rfl ?_
  rw [HR.out]
  exact ⟨_,rfl,zAa.nil_ 0 (Nat.zero_le _) none,HB'.out⟩
 rw [if_neg (by simp)] at HR
 go_wp2_with fail
 refine (C5.out (by trivial) _ HBW5.out).mono ?_
 rintro e w6 ⟨v6,rfl,hr6,hb6⟩
 have HB6:=hid (HB5.out.trans (hb6.mono HB5.out.size))
 have HW6:=hid (HW5.out.trans (hb6.mono HW5.out.size))
 have h56:=HB5.out.size
 have hq0:=HW5.out.size
 have HR6:=hid hr6
 obtain ⟨A6,c6,rfl⟩:=hr6.form
 clear hb6 hr6
 obtain ⟨hl6,hT6,hN6⟩:=KC.out w6 HB6.out
 obtain ⟨hN6',hloc6,hfz,hg0,hg3⟩:=KF.out w6 g o t' HB6.out HN'.out HLOC.out
 have z0:=hfz o
 have z1:=hfz (o + 1)
 have z2:=hfz (o + 2)
 have z3:=hfz (o + 3)
 obtain ⟨u6,⟨d0,d1,d2,d3⟩,hx6⟩:=hN6'
 have HN6':Hid (zC3 w6 T g o t'):=⟨u6,⟨d0,d1,d2,d3⟩,hx6⟩
 have HST:=hid (zPx (T':=fun k=>W0.heap.size≤k∧k < w6.heap.size) (W':=(((w6.setCell ⟨g,o,none⟩ (.int .i64 1)).setCell ⟨g,o + 1,none⟩ (.string ⟨#[]⟩)).setCell ⟨g,o + 2,none⟩ (.int .i64 0)).setCell ⟨g,o + 3,none⟩ (.slice A6 l.length c6)) (l:=l) hl6 hT6 HBT.out hN6 HF.out hloc6 HN6'.out HR6.out (fun q hq=>⟨fun h=>by have:=HTN.out q h;have:=hq.1;omega,by have:=hq.1;omega,hq.2⟩) (fun k hk=>⟨Nat.le_trans HB1.out.size (HTG.out k hk),hT6 k hk⟩) (fun k hk=>⟨by have:=hq0;have:=hk.1;omega,hk.2⟩) rfl)
 have HZ7:Hid (((((w6.setCell ⟨g,o,none⟩ (.int .i64 1)).setCell ⟨g,o + 1,none⟩ (.string ⟨#[]⟩)).setCell ⟨g,o + 2,none⟩ (.int .i64 0)).setCell ⟨g,o + 3,none⟩ (.slice A6 l.length c6)).heap.size = w6.heap.size):=by show _ = _;simp [World.setCell]
 obtain ⟨_,_,hbf,_,_,_⟩:=zC4 d0 d1 d2 d3 (.int .i64 1) (.string ⟨#[]⟩) (.int .i64 0) (.slice A6 l.length c6) (W:=(((w6.setCell ⟨g,o,none⟩ (.int .i64 1)).setCell ⟨g,o + 1,none⟩ (.string ⟨#[]⟩)).setCell ⟨g,o + 2,none⟩ (.int .i64 0)).setCell ⟨g,o + 3,none⟩ (.slice A6 l.length c6)) rfl
 have HW7:=hid (hbf W0.heap.size W0 hg0 HW6.out)
 clear hl6 hT6 hN6 hloc6 hfz hx6 hbf h56
 clear m0 m1 m2 m3 n0 n1 n2 n3 c0 c1 c2 c3 f0 f1 f2 f3
 obtain ⟨⟨⟨m0,m1,m2,m3⟩,_⟩,⟨⟨n0,n1,n2,n3⟩,_⟩,⟨⟨c0,c1,c2,c3⟩,⟨f0,f1,f2,f3⟩⟩,hbw6,hz6⟩:=KB.out w6 HW6.out
 clear hbw6
 go_upto_region 10 with fail
 generalize (((w6.setCell ⟨g,o,none⟩ (.int .i64 1)).setCell ⟨g,o + 1,none⟩ (.string ⟨#[]⟩)).setCell ⟨g,o + 2,none⟩ (.int .i64 0)).setCell ⟨g,o + 3,none⟩ (.slice A6 l.length c6) = W7 at *
 obtain ⟨vR,⟨e0,e1,e2,e3⟩,hokR,hrR⟩:=HST.out
 obtain ⟨AR,cR,rfl⟩:=hrR.form
 simp only [Nat.zero_add] at e1 e2 e3
 try clear m0 m1 m2 m3 n0 n1 n2 n3 c0 c1 c2 c3 f0 f1 f2 f3
 obtain ⟨⟨⟨m0,m1,m2,m3⟩,_⟩,⟨⟨n0,n1,n2,n3⟩,_⟩,⟨⟨c0,c1,c2,c3⟩,⟨f0,f1,f2,f3⟩⟩,hbw7,hz7⟩:=KB.out W7 HW7.out
 have HBW7:=hid hbw7
 have HRR:=hid hrR
 have HC6:=hid (C6.out W7 AR cR (hrR.keep (fun _ _=>rfl) (fun k hk=>by unfold Lt;rw [HZ7.out];exact hk.2)))
 generalize putS t p l = R at *
 clear hbw7 hrR hokR z0 z1 z2 z3 d0 d1 d2 d3 HST C1 C2 C3 C4 C5 C6
 go_wp2_with fail
 refine HC6.out.mono ?_
 rintro e w8 ⟨rfl,hb8⟩
 have HW8:=hid (HW7.out.trans (hb8.mono HW7.out.size))
 have HB8:=hid hb8
 clear m0 m1 m2 m3 n0 n1 n2 n3 c0 c1 c2 c3 f0 f1 f2 f3
 obtain ⟨⟨⟨m0,m1,m2,m3⟩,_⟩,⟨⟨n0,n1,n2,n3⟩,_⟩,⟨⟨c0,c1,c2,c3⟩,⟨f0,f1,f2,f3⟩⟩,hbw8,hz8⟩:=KB.out w8 HW8.out
 have HBW8:=hid hbw8
 clear hbw8
 cases bp
 ·rw [if_pos rfl] at HR
  clear e0 e1 e2 e3 hb8
  have HC:=hid (And.intro c0 (And.intro c1 (And.intro c2 c3)))
  go_wp2_with fail
  generalize hW:(((w8.setCell _ (.int .i64 0)).setCell _ (.string ⟨#[]⟩)).setCell _ (.int .i64 0)).setCell _ (.slice none 0 0) = W
  obtain ⟨⟨r0,r1,r2,r3⟩,rz,rb,ro,_⟩:=four HC.out.1 HC.out.2.1 HC.out.2.2.1 HC.out.2.2.2 _ _ _ _ hW.symm
  have HB':=hid (rb w.heap.size w (by omega) HBW8.out)
  clear hW ro rb
  refine bodyPost_ret (v:=.tuple #[.agg #[.int .i64 0,.string ⟨#[]⟩,.int .i64 0,.slice none 0 0],.int .i64 6]) (by simp [results,Tryz.results87,go_sem,r0,r1,r2,r3]) rfl ?_
  rw [HR.out]
  exact ⟨_,rfl,zAa.nil_ 0 (Nat.zero_le _) none,HB'.out⟩
 rw [if_neg (by simp)] at HR
 replace e0:=(hb8.cell (p:=⟨w2.heap.size,0,none⟩) (zBd e0)).trans e0
 replace e1:=(hb8.cell (p:=⟨w2.heap.size,1,none⟩) (zBd e1)).trans e1
 replace e2:=(hb8.cell (p:=⟨w2.heap.size,2,none⟩) (zBd e2)).trans e2
 replace e3:=(hb8.cell (p:=⟨w2.heap.size,3,none⟩) (zBd e3)).trans e3
 clear hb8
 have HC:=hid (And.intro c0 (And.intro c1 (And.intro c2 c3)))
 have hW0z:W0.heap.size = w.heap.size + 1 + 1 + 1:=HW0Z.out
 have HWZ:=hid hW0z
 clear hW0z
 go_wp2_with fail
 generalize hW:(((w8.setCell _ (.int .i64 R.kind)).setCell _ (.string R.text)).setCell _ (.int .i64 R.cols)).setCell _ (.slice AR R.kids.length cR) = W
 obtain ⟨⟨r0,r1,r2,r3⟩,rz,rb,ro,_⟩:=four HC.out.1 HC.out.2.1 HC.out.2.2.1 HC.out.2.2.2 _ _ _ _ hW.symm
 have HB':=hid (rb w.heap.size w (by omega) HBW8.out)
 have HFIN:Hid (zAa zAb W (fun k=>w.heap.size≤k∧k < W.heap.size) R.kids (.slice AR R.kids.length cR)):=HRR.out.keep (fun q hq=>(ro q (by have:=hq.1;have:=HWZ.out;omega)).trans (HB8.out.cell (by rw [HZ7.out];exact hq.2))) (fun k hk=>⟨by have:=hk.1;have:=HWZ.out;omega,by rw [rz];have:=HB8.out.size;rw [HZ7.out] at this;exact Nat.lt_of_lt_of_le hk.2 this⟩)
 clear hW ro rb
 refine bodyPost_ret (v:=.tuple #[.agg #[.int .i64 R.kind,.string R.text,.int .i64 R.cols,.slice AR R.kids.length cR],.int .i64 0]) (by simp [results,Tryz.results87,go_sem,r0,r1,r2,r3]) rfl ?_
 rw [HR.out]
 exact ⟨_,rfl,HFIN.out,HB'.out⟩
def ofS (t:Tree) (a b:List Int):(List Int × Int × Int) × Int:=if b.length = 0 then betV (zAf t) (zAs t a) (zAs t a) (btS a a) else betV (zAf t) (zAs t a) (zAs t b) (btS a b)
set_option maxHeartbeats 2000000 in
theorem zPk (t:Tree) (a b:List Int) (A Aa Ab:Option Addr) (cap ca cb:Nat) (w:World) (hv:zAa zAb w (Lt w.heap.size) t.kids (.slice A t.kids.length cap)) (htx:t.text.size≤maxLen) (ha:zAh w (Lt w.heap.size) a (.slice Aa a.length ca)) (hb:zAh w (Lt w.heap.size) b (.slice Ab b.length cb)) :
  Calls Tryz.prog 68 #[.agg #[.int .i64 t.kind,.string t.text,.int .i64 t.cols,.slice A t.kids.length cap],.agg #[.slice Aa a.length ca,.slice Ab b.length cb]] w (BetV w (ofS t a b)):=by
 have C1:Hid (b.length = 0→∀ W,Below w.heap.size w W→Calls Tryz.prog 103 #[.agg #[.int .i64 t.kind,.string t.text,.int .i64 t.cols,.slice A t.kids.length cap],.slice Aa a.length ca,.slice Aa a.length ca] W (BetV W (ofS t a b))):=fun h0 W hW=>by
  unfold ofS;rw [if_pos h0]
  exact (zFj t a a A cap _ _ W (hv.below hW hW.size) htx (ha.below hW hW.size) (ha.below hW hW.size)).mono fun e w' h=>zG5.v h
 have C2:Hid (¬ b.length = 0→∀ W,Below w.heap.size w W→Calls Tryz.prog 103 #[.agg #[.int .i64 t.kind,.string t.text,.int .i64 t.cols,.slice A t.kids.length cap],.slice Aa a.length ca,.slice Ab b.length cb] W (BetV W (ofS t a b))):=fun h0 W hW=>by
  unfold ofS;rw [if_neg h0]
  exact (zFj t a b A cap _ _ W (hv.below hW hW.size) htx (ha.below hW hW.size) (hb.below hW hW.size)).mono fun e w' h=>zG5.v h
 have hlb:b.length≤maxLen:=by obtain ⟨_,_,_,_,h1,h,_⟩:=hb;exact Nat.le_trans h1 h
 generalize ofS t a b = r at *
 obtain ⟨⟨m,x,y⟩,er⟩:=r
 obtain ⟨tk,tx,tc,ts⟩:=t
 simp only [Tree.kind,Tree.text,Tree.cols,Tree.kids] at *
 clear hv htx ha hb
 generalize hW0:((w.alloc (Obj.cells #[.int .i64 tk,.string tx,.int .i64 tc,.slice A ts.length cap] 24)).alloc (.cells #[.slice Aa a.length ca,.slice Ab b.length cb] 33)).alloc (.cells #[.slice none 0 0,.int .i64 0,.int .i64 0] 46) = W0
 have KB:Hid (∀ W,Below W0.heap.size W0 W→(W.cell? ⟨w.heap.size,0,none⟩ = some (.int .i64 tk)∧W.cell? ⟨w.heap.size,1,none⟩ = some (.string tx)∧W.cell? ⟨w.heap.size,2,none⟩ = some (.int .i64 tc)∧W.cell? ⟨w.heap.size,3,none⟩ = some (.slice A ts.length cap)) ∧
   (W.cell? ⟨w.heap.size + 1,0,none⟩ = some (.slice Aa a.length ca)∧W.cell? ⟨w.heap.size + 1,1,none⟩ = some (.slice Ab b.length cb)) ∧
   (W.cell? ⟨w.heap.size + 2,0,none⟩ = some (.slice none 0 0)∧W.cell? ⟨w.heap.size + 2,1,none⟩ = some (.int .i64 0)∧W.cell? ⟨w.heap.size + 2,2,none⟩ = some (.int .i64 0)) ∧
   (W.frozen? ⟨w.heap.size + 2,0,none⟩ = false∧W.frozen? ⟨w.heap.size + 2,1,none⟩ = false∧W.frozen? ⟨w.heap.size + 2,2,none⟩ = false)∧Below w.heap.size w W∧w.heap.size + 2 < W.heap.size):=by
  intro W hW
  have hz:W0.heap.size = w.heap.size + 1 + 1 + 1:=by rw [← hW0];simp
  have hc:=(bcell hW).1
  have hf:=(bcell hW).2
  have hbb:Below w.heap.size w W0:=by rw [← hW0];exact zCb (zCb (zAt _ _) _) _
  refine ⟨⟨(hc _ _ (by omega)).trans ?_,(hc _ _ (by omega)).trans ?_,(hc _ _ (by omega)).trans ?_,(hc _ _ (by omega)).trans ?_⟩,⟨(hc _ _ (by omega)).trans ?_,(hc _ _ (by omega)).trans ?_⟩,⟨(hc _ _ (by omega)).trans ?_,(hc _ _ (by omega)).trans ?_,(hc _ _ (by omega)).trans ?_⟩,⟨(hf _ _ (by omega)).trans ?_,(hf _ _ (by omega)).trans ?_,(hf _ _ (by omega)).trans ?_⟩,hbb.trans (hW.mono hbb.size),by have:=hW.size;omega⟩
  all_goals (rw [← hW0];first | exact na_c _ _ _ _ _ (by simp) | exact na_f _ _ _ _ _ (by simp) | exact zD1 _ _ _ _ _ _ (by simp) | exact zDo _ _ _ _ _ (by simp;omega) (zD1 _ _ _ _ _ _ rfl))
 obtain ⟨⟨m0,m1,m2,m3⟩,⟨u0,u1⟩,⟨c0,c1,c2⟩,⟨f0,f1,f2⟩,hbw0,hz0⟩:=KB.out W0 (Below.refl _ _)
 have HBW0:=hid hbw0
 clear hbw0
 unfold maxLen at hlb
 by_cases h0:b.length = 0
 ·have e0:(((b.length:Int)) == 0) = true:=by first | (rw [h0];rfl) | (rw [beq_eq_false_iff_ne];omega)
  have C:=hid (C1.out h0 W0 HBW0.out)
  clear C1 C2 h0
  go_enter Tryz.func68,Tryz.ntmps68
  go_wp2_with fail
  refine C.out.mono ?_
  intro e w1 h
  obtain ⟨v1,rfl,hi1,hb1⟩:∃ v,e = .returned (.tuple #[.agg #[v,.int .i64 x,.int .i64 y],.int .i64 er])∧zAh w1 (fun k=>W0.heap.size≤k∧k < w1.heap.size) m v∧Below W0.heap.size W0 w1:=h
  clear m0 m1 m2 m3 u0 u1 c0 c1 c2 f0 f1 f2 hz0
  obtain ⟨Am,cm,rfl⟩:=hi1.form
  obtain ⟨_,_,hr1,⟨f0,f1,f2⟩,hbw1,hz1⟩:=KB.out w1 hb1
  have HI1:=hid hi1
  have HBW1:=hid hbw1
  have HZ0:Hid (w.heap.size + 2 < W0.heap.size):=(KB.out W0 (Below.refl _ _)).2.2.2.2.2
  obtain ⟨c0,c1,c2⟩:=hr1
  have HR1:=hid (And.intro c0 (And.intro c1 c2))
  clear hb1 hbw1 hi1
  go_wp2_with fail
  generalize hW:((w1.setCell _ (.slice Am m.length cm)).setCell _ (.int .i64 x)).setCell _ (.int .i64 y) = W
  obtain ⟨⟨r0,r1,r2⟩,rz,rb,ro⟩:=three HR1.out.1 HR1.out.2.1 HR1.out.2.2 _ _ _ hW.symm
  have HB':=hid (rb w.heap.size w (by omega) HBW1.out)
  have HI':Hid (zAh W (fun k=>w.heap.size≤k∧k < W.heap.size) m (.slice Am m.length cm)):=by
   refine HI1.out.keep (fun p hp=>ro p ?_) (fun j hj=>?_)
   ·have:=hp.1;have:=HZ0.out;omega
   ·have:=hj.1;have:=hj.2;have:=HZ0.out;exact ⟨by omega,by omega⟩
  clear hW ro rb
  refine bodyPost_ret (v:=.tuple #[.agg #[.slice Am m.length cm,.int .i64 x,.int .i64 y],.int .i64 er]) (by simp [results,Tryz.results68,go_sem,r0,r1,r2]) rfl ?_
  exact ⟨_,rfl,HI'.out,HB'.out⟩
 ·have e0:(((b.length:Int)) == 0) = false:=by first | (rw [h0];rfl) | (rw [beq_eq_false_iff_ne];omega)
  have C:=hid (C2.out h0 W0 HBW0.out)
  clear C1 C2 h0
  go_enter Tryz.func68,Tryz.ntmps68
  go_wp2_with fail
  refine C.out.mono ?_
  intro e w1 h
  obtain ⟨v1,rfl,hi1,hb1⟩:∃ v,e = .returned (.tuple #[.agg #[v,.int .i64 x,.int .i64 y],.int .i64 er])∧zAh w1 (fun k=>W0.heap.size≤k∧k < w1.heap.size) m v∧Below W0.heap.size W0 w1:=h
  clear m0 m1 m2 m3 u0 u1 c0 c1 c2 f0 f1 f2 hz0
  obtain ⟨Am,cm,rfl⟩:=hi1.form
  obtain ⟨_,_,hr1,⟨f0,f1,f2⟩,hbw1,hz1⟩:=KB.out w1 hb1
  have HI1:=hid hi1
  have HBW1:=hid hbw1
  have HZ0:Hid (w.heap.size + 2 < W0.heap.size):=(KB.out W0 (Below.refl _ _)).2.2.2.2.2
  obtain ⟨c0,c1,c2⟩:=hr1
  have HR1:=hid (And.intro c0 (And.intro c1 c2))
  clear hb1 hbw1 hi1
  go_wp2_with fail
  generalize hW:((w1.setCell _ (.slice Am m.length cm)).setCell _ (.int .i64 x)).setCell _ (.int .i64 y) = W
  obtain ⟨⟨r0,r1,r2⟩,rz,rb,ro⟩:=three HR1.out.1 HR1.out.2.1 HR1.out.2.2 _ _ _ hW.symm
  have HB':=hid (rb w.heap.size w (by omega) HBW1.out)
  have HI':Hid (zAh W (fun k=>w.heap.size≤k∧k < W.heap.size) m (.slice Am m.length cm)):=by
   refine HI1.out.keep (fun p hp=>ro p ?_) (fun j hj=>?_)
   ·have:=hp.1;have:=HZ0.out;omega
   ·have:=hj.1;have:=hj.2;have:=HZ0.out;exact ⟨by omega,by omega⟩
  clear hW ro rb
  refine bodyPost_ret (v:=.tuple #[.agg #[.slice Am m.length cm,.int .i64 x,.int .i64 y],.int .i64 er]) (by simp [results,Tryz.results68,go_sem,r0,r1,r2]) rfl ?_
  exact ⟨_,rfl,HI'.out,HB'.out⟩
set_option maxHeartbeats 2000000 in
theorem rOf_any (t:Tree) (a b:List Int) (A Aa Ab:Option Addr) (cap ca cb:Nat) (w:World) (hv:zAa zAb w (Lt w.heap.size) t.kids (.slice A t.kids.length cap)) (htx:t.text.size≤maxLen) (ha:zAh w (Lt w.heap.size) a (.slice Aa a.length ca)) (hb:zAh w (Lt w.heap.size) b (.slice Ab b.length cb)) (hct:zAe t≤900000) :
  Calls Tryz.prog 18 #[.agg #[.int .i64 t.kind,.string t.text,.int .i64 t.cols,.slice A t.kids.length cap],.agg #[.slice Aa a.length ca,.slice Ab b.length cb]] w (BetV w (ofS t a b)):=by
 have C1:Hid (b.length = 0→∀ W,Below w.heap.size w W→Calls Tryz.prog 47 #[.agg #[.int .i64 t.kind,.string t.text,.int .i64 t.cols,.slice A t.kids.length cap],.slice Aa a.length ca,.slice Aa a.length ca] W (BetV W (ofS t a b))):=fun h0 W hW=>by
  unfold ofS;rw [if_pos h0]
  exact (zGy t a a A cap _ _ W (hv.below hW hW.size) htx hct (ha.below hW hW.size) (ha.below hW hW.size)).mono fun e w' h=>zG5.v h
 have C2:Hid (¬ b.length = 0→∀ W,Below w.heap.size w W→Calls Tryz.prog 47 #[.agg #[.int .i64 t.kind,.string t.text,.int .i64 t.cols,.slice A t.kids.length cap],.slice Aa a.length ca,.slice Ab b.length cb] W (BetV W (ofS t a b))):=fun h0 W hW=>by
  unfold ofS;rw [if_neg h0]
  exact (zGy t a b A cap _ _ W (hv.below hW hW.size) htx hct (ha.below hW hW.size) (hb.below hW hW.size)).mono fun e w' h=>zG5.v h
 have hlb:b.length≤maxLen:=by obtain ⟨_,_,_,_,h1,h,_⟩:=hb;exact Nat.le_trans h1 h
 generalize ofS t a b = r at *
 obtain ⟨⟨m,x,y⟩,er⟩:=r
 obtain ⟨tk,tx,tc,ts⟩:=t
 simp only [Tree.kind,Tree.text,Tree.cols,Tree.kids] at *
 clear hv htx ha hb hct
 generalize hW0:((w.alloc (Obj.cells #[.int .i64 tk,.string tx,.int .i64 tc,.slice A ts.length cap] 24)).alloc (.cells #[.slice Aa a.length ca,.slice Ab b.length cb] 33)).alloc (.cells #[.slice none 0 0,.int .i64 0,.int .i64 0] 46) = W0
 have KB:Hid (∀ W,Below W0.heap.size W0 W→(W.cell? ⟨w.heap.size,0,none⟩ = some (.int .i64 tk)∧W.cell? ⟨w.heap.size,1,none⟩ = some (.string tx)∧W.cell? ⟨w.heap.size,2,none⟩ = some (.int .i64 tc)∧W.cell? ⟨w.heap.size,3,none⟩ = some (.slice A ts.length cap)) ∧
   (W.cell? ⟨w.heap.size + 1,0,none⟩ = some (.slice Aa a.length ca)∧W.cell? ⟨w.heap.size + 1,1,none⟩ = some (.slice Ab b.length cb)) ∧
   (W.cell? ⟨w.heap.size + 2,0,none⟩ = some (.slice none 0 0)∧W.cell? ⟨w.heap.size + 2,1,none⟩ = some (.int .i64 0)∧W.cell? ⟨w.heap.size + 2,2,none⟩ = some (.int .i64 0)) ∧
   (W.frozen? ⟨w.heap.size + 2,0,none⟩ = false∧W.frozen? ⟨w.heap.size + 2,1,none⟩ = false∧W.frozen? ⟨w.heap.size + 2,2,none⟩ = false)∧Below w.heap.size w W∧w.heap.size + 2 < W.heap.size):=by
  intro W hW
  have hz:W0.heap.size = w.heap.size + 1 + 1 + 1:=by rw [← hW0];simp
  have hc:=(bcell hW).1
  have hf:=(bcell hW).2
  have hbb:Below w.heap.size w W0:=by rw [← hW0];exact zCb (zCb (zAt _ _) _) _
  refine ⟨⟨(hc _ _ (by omega)).trans ?_,(hc _ _ (by omega)).trans ?_,(hc _ _ (by omega)).trans ?_,(hc _ _ (by omega)).trans ?_⟩,⟨(hc _ _ (by omega)).trans ?_,(hc _ _ (by omega)).trans ?_⟩,⟨(hc _ _ (by omega)).trans ?_,(hc _ _ (by omega)).trans ?_,(hc _ _ (by omega)).trans ?_⟩,⟨(hf _ _ (by omega)).trans ?_,(hf _ _ (by omega)).trans ?_,(hf _ _ (by omega)).trans ?_⟩,hbb.trans (hW.mono hbb.size),by have:=hW.size;omega⟩
  all_goals (rw [← hW0];first | exact na_c _ _ _ _ _ (by simp) | exact na_f _ _ _ _ _ (by simp) | exact zD1 _ _ _ _ _ _ (by simp) | exact zDo _ _ _ _ _ (by simp;omega) (zD1 _ _ _ _ _ _ rfl))
 obtain ⟨⟨m0,m1,m2,m3⟩,⟨u0,u1⟩,⟨c0,c1,c2⟩,⟨f0,f1,f2⟩,hbw0,hz0⟩:=KB.out W0 (Below.refl _ _)
 have HBW0:=hid hbw0
 clear hbw0
 unfold maxLen at hlb
 by_cases h0:b.length = 0
 ·have e0:(((b.length:Int)) == 0) = true:=by first | (rw [h0];rfl) | (rw [beq_eq_false_iff_ne];omega)
  have C:=hid (C1.out h0 W0 HBW0.out)
  clear C1 C2 h0
  go_enter Tryz.func18,Tryz.ntmps18
  go_wp2_with fail
  refine C.out.mono ?_
  intro e w1 h
  obtain ⟨v1,rfl,hi1,hb1⟩:∃ v,e = .returned (.tuple #[.agg #[v,.int .i64 x,.int .i64 y],.int .i64 er])∧zAh w1 (fun k=>W0.heap.size≤k∧k < w1.heap.size) m v∧Below W0.heap.size W0 w1:=h
  clear m0 m1 m2 m3 u0 u1 c0 c1 c2 f0 f1 f2 hz0
  obtain ⟨Am,cm,rfl⟩:=hi1.form
  obtain ⟨_,_,hr1,⟨f0,f1,f2⟩,hbw1,hz1⟩:=KB.out w1 hb1
  have HI1:=hid hi1
  have HBW1:=hid hbw1
  have HZ0:Hid (w.heap.size + 2 < W0.heap.size):=(KB.out W0 (Below.refl _ _)).2.2.2.2.2
  obtain ⟨c0,c1,c2⟩:=hr1
  have HR1:=hid (And.intro c0 (And.intro c1 c2))
  clear hb1 hbw1 hi1
  go_wp2_with fail
  generalize hW:((w1.setCell _ (.slice Am m.length cm)).setCell _ (.int .i64 x)).setCell _ (.int .i64 y) = W
  obtain ⟨⟨r0,r1,r2⟩,rz,rb,ro⟩:=three HR1.out.1 HR1.out.2.1 HR1.out.2.2 _ _ _ hW.symm
  have HB':=hid (rb w.heap.size w (by omega) HBW1.out)
  have HI':Hid (zAh W (fun k=>w.heap.size≤k∧k < W.heap.size) m (.slice Am m.length cm)):=by
   refine HI1.out.keep (fun p hp=>ro p ?_) (fun j hj=>?_)
   ·have:=hp.1;have:=HZ0.out;omega
   ·have:=hj.1;have:=hj.2;have:=HZ0.out;exact ⟨by omega,by omega⟩
  clear hW ro rb
  refine bodyPost_ret (v:=.tuple #[.agg #[.slice Am m.length cm,.int .i64 x,.int .i64 y],.int .i64 er]) (by simp [results,Tryz.results18,go_sem,r0,r1,r2]) rfl ?_
  exact ⟨_,rfl,HI'.out,HB'.out⟩
 ·have e0:(((b.length:Int)) == 0) = false:=by first | (rw [h0];rfl) | (rw [beq_eq_false_iff_ne];omega)
  have C:=hid (C2.out h0 W0 HBW0.out)
  clear C1 C2 h0
  go_enter Tryz.func18,Tryz.ntmps18
  go_wp2_with fail
  refine C.out.mono ?_
  intro e w1 h
  obtain ⟨v1,rfl,hi1,hb1⟩:∃ v,e = .returned (.tuple #[.agg #[v,.int .i64 x,.int .i64 y],.int .i64 er])∧zAh w1 (fun k=>W0.heap.size≤k∧k < w1.heap.size) m v∧Below W0.heap.size W0 w1:=h
  clear m0 m1 m2 m3 u0 u1 c0 c1 c2 f0 f1 f2 hz0
  obtain ⟨Am,cm,rfl⟩:=hi1.form
  obtain ⟨_,_,hr1,⟨f0,f1,f2⟩,hbw1,hz1⟩:=KB.out w1 hb1
  have HI1:=hid hi1
  have HBW1:=hid hbw1
  have HZ0:Hid (w.heap.size + 2 < W0.heap.size):=(KB.out W0 (Below.refl _ _)).2.2.2.2.2
  obtain ⟨c0,c1,c2⟩:=hr1
  have HR1:=hid (And.intro c0 (And.intro c1 c2))
  clear hb1 hbw1 hi1
  go_wp2_with fail
  generalize hW:((w1.setCell _ (.slice Am m.length cm)).setCell _ (.int .i64 x)).setCell _ (.int .i64 y) = W
  obtain ⟨⟨r0,r1,r2⟩,rz,rb,ro⟩:=three HR1.out.1 HR1.out.2.1 HR1.out.2.2 _ _ _ hW.symm
  have HB':=hid (rb w.heap.size w (by omega) HBW1.out)
  have HI':Hid (zAh W (fun k=>w.heap.size≤k∧k < W.heap.size) m (.slice Am m.length cm)):=by
   refine HI1.out.keep (fun p hp=>ro p ?_) (fun j hj=>?_)
   ·have:=hp.1;have:=HZ0.out;omega
   ·have:=hj.1;have:=hj.2;have:=HZ0.out;exact ⟨by omega,by omega⟩
  clear hW ro rb
  refine bodyPost_ret (v:=.tuple #[.agg #[.slice Am m.length cm,.int .i64 x,.int .i64 y],.int .i64 er]) (by simp [results,Tryz.results18,go_sem,r0,r1,r2]) rfl ?_
  exact ⟨_,rfl,HI'.out,HB'.out⟩
end Go.Proofs.YtbjcioknfjofkaaGreat
