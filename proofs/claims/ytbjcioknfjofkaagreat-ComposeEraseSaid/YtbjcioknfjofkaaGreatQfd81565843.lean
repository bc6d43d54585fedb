/- Texts put together. -/
import Derived.Test.YtbjcioknfjofkaaGreatQb55496f77f
import Derived.Test.YtbjcioknfjofkaaGreatQ0a2d1212ff
import Derived.Test.YtbjcioknfjofkaaGreatQb39920218e
import Derived.Test.YtbjcioknfjofkaaGreatQd6706ab604
import Derived.Shelf.Abstract
import Derived.Deep.RegionHeld3
import Derived.IntWalk
import Derived.Deep.QuietTactic
import Derived.BigQuiet
set_option linter.unusedVariables false
set_option linter.unusedSimpArgs false
set_option maxRecDepth 100000
namespace Go.Proofs.YtbjcioknfjofkaaGreat
open Go.RowKit Go.Shelf
def Cells (w:World) (B:Nat):Prop :=
 (w.cell? ⟨B,4,none⟩ = some (.int .i64 0)∧w.cell? ⟨B,5,none⟩ = some (.func (.func 117) #[] #[])) ∧
 (w.cell? ⟨B,7,none⟩ = some (.int .i64 0)∧w.cell? ⟨B,8,none⟩ = some (.func (.func 118) #[] #[])) ∧
 (w.cell? ⟨B,10,none⟩ = some (.int .i64 0)∧w.cell? ⟨B,11,none⟩ = some (.func (.func 119) #[] #[])) ∧
 (w.cell? ⟨B,13,none⟩ = some (.int .i64 0)∧w.cell? ⟨B,14,none⟩ = some (.func (.func 120) #[] #[])) ∧
 (w.cell? ⟨B,16,none⟩ = some (.int .i64 2)∧w.cell? ⟨B,17,none⟩ = some (.func (.func 117) #[] #[])) ∧
 (w.cell? ⟨B,19,none⟩ = some (.int .i64 2)∧w.cell? ⟨B,20,none⟩ = some (.func (.func 117) #[] #[])) ∧
 (w.cell? ⟨B,22,none⟩ = some (.int .i64 2)∧w.cell? ⟨B,23,none⟩ = some (.func (.func 117) #[] #[])) ∧
 (w.cell? ⟨B,25,none⟩ = some (.int .i64 2)∧w.cell? ⟨B,26,none⟩ = some (.func (.func 117) #[] #[])) ∧
 (w.cell? ⟨B,28,none⟩ = some (.int .i64 3)∧w.cell? ⟨B,29,none⟩ = some (.func (.func 117) #[] #[])) ∧
 (w.cell? ⟨B,31,none⟩ = some (.int .i64 1)∧w.cell? ⟨B,32,none⟩ = some (.func (.func 121) #[] #[])) ∧
 (w.cell? ⟨B,34,none⟩ = some (.int .i64 1)∧w.cell? ⟨B,35,none⟩ = some (.func (.func 122) #[] #[])) ∧
 (w.cell? ⟨B,37,none⟩ = some (.int .i64 0)∧w.cell? ⟨B,38,none⟩ = some (.func (.func 117) #[] #[]))
theorem zD0 {P:Program} {f:FuncId} {args:Array Value} {W:World} {v:Value} (h:Calls P f args W fun e w'=>e = .returned v∧W = w'):Calls P f args W fun e w'=>e = .returned v∧∃ n,w' = W.drewN n :=
 h.mono fun e w' ⟨h1,h2⟩=>⟨h1,0,by subst h2;rfl⟩
theorem zLo (k c:Int) (n:Nat) (h:k < 1∨12 < k):zA5 k c n = false:=by
 unfold zA5
 rw [if_neg (by omega)]
 split
 ·rfl
 ·rw [if_neg (by omega),if_neg (by omega),if_neg (by omega),if_neg (by omega),if_neg (by omega)]
set_option maxHeartbeats 4000000 in
theorem own_any (k c:Int) (s:ByteArray) (A:Option Addr) (n cap B g o:Nat) (w:World) (hn:n≤maxLen) (hs:s.size≤maxLen)
  (c0:w.cell? ⟨g,o,none⟩ = some (.int .i64 k)) (c1:w.cell? ⟨g,o + 1,none⟩ = some (.string s)) (c2:w.cell? ⟨g,o + 2,none⟩ = some (.int .i64 c)) (c3:w.cell? ⟨g,o + 3,none⟩ = some (.slice A n cap))
  (hK:Cells w B) :
  Calls Tryz.prog 123 #[.pointer (some ⟨B,0,none⟩),.pointer (some ⟨g,o,none⟩)] w fun e w'=>e = .returned (.bool (zCh k s && zA5 k c n))∧∃ n,w' = w.drewN n:=by
 by_cases h1:k < 1
 ·rw [zLo k c n (.inl h1),Bool.and_false]
  have d1:decide (k < 1) = true:=decide_eq_true h1
  clear hK
  go_enter Tryz.func123,Tryz.ntmps123
  go_wp2_with fail
  go_quiet (fail)
  go_wp2_with fail
  go_ret
  exact ⟨rfl,_,rfl⟩
 by_cases h2:12 < k
 ·rw [zLo k c n (.inr h2),Bool.and_false]
  have d1:decide (k < 1) = false:=decide_eq_false h1
  have d2:decide (12 < k) = true:=decide_eq_true h2
  clear hK
  go_enter Tryz.func123,Tryz.ntmps123
  go_wp2_with fail
  go_quiet (fail)
  go_wp2_with fail
  go_ret
  exact ⟨rfl,_,rfl⟩
 have hk:k = 1∨k = 2∨k = 3∨k = 4∨k = 5∨k = 6∨k = 7∨k = 8∨k = 9∨k = 10∨k = 11∨k = 12:=by omega
 obtain ⟨⟨a1,b1⟩,⟨a2,b2⟩,⟨a3,b3⟩,⟨a4,b4⟩,⟨a5,b5⟩,⟨a6,b6⟩,⟨a7,b7⟩,⟨a8,b8⟩,⟨a9,b9⟩,⟨a10,b10⟩,⟨a11,b11⟩,⟨a12,b12⟩⟩:=hK
 rcases hk with rfl | rfl | rfl | rfl | rfl | rfl | rfl | rfl | rfl | rfl | rfl | rfl
 ·exact own_1 c s A n cap B g o (zCh 1 s) w hn c0 c1 c2 c3 a1 b1 (hid fun W=>zD0 (zFt s W))
 ·exact zEi 2 118 0 (by show _∧_;omega) (hid fun n=>by unfold zA5;simp) (enters_of Tryz.func118 (by kernel_rfl) rfl) (by decide) (by decide) (by decide) (by decide) (by decide) (by decide) (by decide) c s A n cap B g o (zCh 2 s) w hn c0 c1 c2 c3 a2 b2 (hid fun W=>zD0 (zP8 s W hs))
 ·exact zEi 3 119 0 (by show _∧_;omega) (hid fun n=>by unfold zA5;simp) (enters_of Tryz.func119 (by kernel_rfl) rfl) (by decide) (by decide) (by decide) (by decide) (by decide) (by decide) (by decide) c s A n cap B g o (zCh 3 s) w hn c0 c1 c2 c3 a3 b3 (hid fun W=>zP9 s W hs)
 ·exact zEi 4 120 0 (by show _∧_;omega) (hid fun n=>by unfold zA5;simp) (enters_of Tryz.func120 (by kernel_rfl) rfl) (by decide) (by decide) (by decide) (by decide) (by decide) (by decide) (by decide) c s A n cap B g o (zCh 4 s) w hn c0 c1 c2 c3 a4 b4 (hid fun W=>zD0 (plain_q s W hs))
 ·exact zEi 5 117 2 (by show _∧_;omega) (hid fun n=>by unfold zA5;simp) (enters_of Tryz.func117 (by kernel_rfl) rfl) (by decide) (by decide) (by decide) (by decide) (by decide) (by decide) (by decide) c s A n cap B g o (zCh 5 s) w hn c0 c1 c2 c3 a5 b5 (hid fun W=>zD0 (zFt s W))
 ·exact zEi 6 117 2 (by show _∧_;omega) (hid fun n=>by unfold zA5;simp) (enters_of Tryz.func117 (by kernel_rfl) rfl) (by decide) (by decide) (by decide) (by decide) (by decide) (by decide) (by decide) c s A n cap B g o (zCh 6 s) w hn c0 c1 c2 c3 a6 b6 (hid fun W=>zD0 (zFt s W))
 ·exact zEi 7 117 2 (by show _∧_;omega) (hid fun n=>by unfold zA5;simp) (enters_of Tryz.func117 (by kernel_rfl) rfl) (by decide) (by decide) (by decide) (by decide) (by decide) (by decide) (by decide) c s A n cap B g o (zCh 7 s) w hn c0 c1 c2 c3 a7 b7 (hid fun W=>zD0 (zFt s W))
 ·exact zEi 8 117 2 (by show _∧_;omega) (hid fun n=>by unfold zA5;simp) (enters_of Tryz.func117 (by kernel_rfl) rfl) (by decide) (by decide) (by decide) (by decide) (by decide) (by decide) (by decide) c s A n cap B g o (zCh 8 s) w hn c0 c1 c2 c3 a8 b8 (hid fun W=>zD0 (zFt s W))
 ·exact zEi 9 117 3 (by show _∧_;omega) (hid fun n=>by unfold zA5;simp) (enters_of Tryz.func117 (by kernel_rfl) rfl) (by decide) (by decide) (by decide) (by decide) (by decide) (by decide) (by decide) c s A n cap B g o (zCh 9 s) w hn c0 c1 c2 c3 a9 b9 (hid fun W=>zD0 (zFt s W))
 ·exact zEi 10 121 1 (by show _∧_;omega) (hid fun n=>by unfold zA5;simp) (enters_of Tryz.func121 (by kernel_rfl) rfl) (by decide) (by decide) (by decide) (by decide) (by decide) (by decide) (by decide) c s A n cap B g o (zCh 10 s) w hn c0 c1 c2 c3 a10 b10 (hid fun W=>zD0 (zOb s W))
 ·exact zEi 11 122 1 (by show _∧_;omega) (hid fun n=>by unfold zA5;simp) (enters_of Tryz.func122 (by kernel_rfl) rfl) (by decide) (by decide) (by decide) (by decide) (by decide) (by decide) (by decide) c s A n cap B g o (zCh 11 s) w hn c0 c1 c2 c3 a11 b11 (hid fun W=>zD0 (fence_q s W hs))
 ·exact own_12 c s A n cap B g o (zCh 12 s) w hn c0 c1 c2 c3 a12 b12 (hid fun W=>zD0 (zFt s W))
end Go.Proofs.YtbjcioknfjofkaaGreat
namespace Go.Proofs.YtbjcioknfjofkaaGreat
open Go.RowKit
mutual
def okS:Tree→Int→Int→Bool
 | .mk k s c ts,m,d=>decide (m + 1≤1000) && (decide (d≤24) && ((zCh k s && zA5 k c ts.length) && oksS k ts (m + 1) (d + 1)))
def oksS (k:Int):List Tree→Int→Int→Bool
 | [],_,_=>true
 | t :: ts,m,d=>!((t.kind == 1) == (k == 1)) && (okS t m d && oksS k ts (m + zAe t) d)
end
theorem zP6 (k m d:Int) {ts:List Tree} {i:Nat} (h:i < ts.length) :
  oksS k (ts.drop i) (m + (zAd (ts.take i):Nat)) d = (!((ts[i].kind == 1) == (k == 1)) && (okS ts[i] (m + (zAd (ts.take i):Nat)) d && oksS k (ts.drop (i + 1)) (m + (zAd (ts.take (i + 1)):Nat)) d)):=by
 rw [List.drop_eq_getElem_cons h,oksS,zBa h,show m + ((zAd (ts.take i) + zAe ts[i]:Nat):Int) = m + (zAd (ts.take i):Nat) + zAe ts[i] by omega]
mutual
theorem zP7 : (t : Tree) → (m d : Int) → okS t m d = (zB0 t && (decide (m + zAe t ≤ 1000) && decide (d + zBc t ≤ 25)))
  | .mk k s c ts, m, d => by
    rw [okS, zP5 k ts (m + 1) (d + 1), zB0, zAe, zBc, Bool.eq_iff_iff]
    simp only [Bool.and_eq_true, decide_eq_true_eq]
    constructor
    · rintro ⟨h1, h2, h3, h4, h5⟩
      refine ⟨⟨h3, h4⟩, ?_⟩
      rcases h5 with rfl | h5
      · simp only [zAd, zBb]; omega
      · omega
    · rintro ⟨⟨h3, h4⟩, h5, h6⟩
      refine ⟨by omega, by omega, h3, h4, ?_⟩
      rcases ts with _ | ⟨t, ts⟩
      · exact .inl rfl
      · exact .inr (by omega)
theorem zP5 (k : Int) : (ts : List Tree) → (m d : Int) → oksS k ts m d = (zCr k ts && decide (ts = [] ∨ (m + zAd ts ≤ 1000 ∧ d + zBb ts ≤ 25)))
  | [], m, d => by rw [oksS, zCr]; simp
  | t :: ts, m, d => by
    rw [oksS, zP7 t m d, zP5 k ts (m + zAe t) d, zBz, zAd, zBb, Bool.eq_iff_iff]
    simp only [Bool.and_eq_true, decide_eq_true_eq, reduceCtorEq, false_or]
    constructor
    · rintro ⟨h1, ⟨h2, h3, h4⟩, h5, h6⟩
      refine ⟨⟨⟨h1, h2⟩, h5⟩, ?_⟩
      rcases h6 with rfl | h6
      · simp only [zAd, zBb]; omega
      · omega
    · rintro ⟨⟨⟨h1, h2⟩, h5⟩, h3, h4⟩
      exact ⟨h1, ⟨h2, by omega, by omega⟩, h5, .inr (by omega)⟩
end
def zEu (w:World) (S:Nat→Prop) (g o:Nat) (t:Tree) (A:Option Addr) (cap:Nat) (rs:List Value):Prop :=
 (w.cell? ⟨g,o,none⟩ = some (.int .i64 t.kind)∧w.cell? ⟨g,o + 1,none⟩ = some (.string t.text)∧w.cell? ⟨g,o + 2,none⟩ = some (.int .i64 t.cols)∧w.cell? ⟨g,o + 3,none⟩ = some (.slice A t.kids.length cap)) ∧
  S g∧t.text.size≤maxLen∧t.kids.length≤cap∧cap≤maxLen∧zBk w S A rs∧zAw zAb w S t.kids rs
theorem zEu.below {w w':World} {B g o:Nat} {t:Tree} {A:Option Addr} {cap:Nat} {rs:List Value} (h:zEu w (Lt B) g o t A cap rs) (hb:Below B w w'):zEu w' (Lt B) g o t A cap rs:=by
 obtain ⟨⟨h0,h1,h2,h3⟩,hg,h4,h5,h6,h7,h8⟩:=h
 have hc:=(bcell hb).1
 exact ⟨⟨(hc _ _ hg).trans h0,(hc _ _ hg).trans h1,(hc _ _ hg).trans h2,(hc _ _ hg).trans h3⟩,hg,h4,h5,h6,h7.keep (Same.of_below hb (Nat.le_refl _)) (fun _ h=>h),h8.keep (Same.of_below hb (Nat.le_refl _)) (fun _ h=>h)⟩
def Chk (w:World) (B:Nat) (m:Int):Prop:=Cells w B∧w.cell? ⟨B,39,none⟩ = some (.int .i64 m)∧w.frozen? ⟨B,39,none⟩ = false
theorem zA4 {w:World} {B i j:Nat} {v:Value} (h:i≠j):(w.setCell ⟨B,i,none⟩ v).cell? ⟨B,j,none⟩ = w.cell? ⟨B,j,none⟩:=by
 have o:(⟨B,i,none⟩:Addr)≠⟨B,j,none⟩:=fun e=>h (by injection e)
 rw [World.cell?_setCell_other (h:=o)]
theorem Chk.set {w:World} {B:Nat} {m:Int} (h:Chk w B m) (m':Int):Chk (w.setCell ⟨B,39,none⟩ (.int .i64 m')) B m':=by
 obtain ⟨hc,h1,h2⟩:=h
 refine ⟨?_,World.cell?_setCell_same _ _ _ h1,by rw [World.frozen?_setCell];exact h2⟩
 unfold Cells at *
 simp only [zA4 (show (39:Nat)≠4 by decide),zA4 (show (39:Nat)≠5 by decide),zA4 (show (39:Nat)≠7 by decide),zA4 (show (39:Nat)≠8 by decide),zA4 (show (39:Nat)≠10 by decide),zA4 (show (39:Nat)≠11 by decide),
  zA4 (show (39:Nat)≠13 by decide),zA4 (show (39:Nat)≠14 by decide),zA4 (show (39:Nat)≠16 by decide),zA4 (show (39:Nat)≠17 by decide),zA4 (show (39:Nat)≠19 by decide),zA4 (show (39:Nat)≠20 by decide),
  zA4 (show (39:Nat)≠22 by decide),zA4 (show (39:Nat)≠23 by decide),zA4 (show (39:Nat)≠25 by decide),zA4 (show (39:Nat)≠26 by decide),zA4 (show (39:Nat)≠28 by decide),zA4 (show (39:Nat)≠29 by decide),
  zA4 (show (39:Nat)≠31 by decide),zA4 (show (39:Nat)≠32 by decide),zA4 (show (39:Nat)≠34 by decide),zA4 (show (39:Nat)≠35 by decide),zA4 (show (39:Nat)≠37 by decide),zA4 (show (39:Nat)≠38 by decide)]
 exact hc
theorem Chk.drew {w:World} {B:Nat} {m:Int} (h:Chk w B m) (n:Nat):Chk (w.drewN n) B m:=h
def zNn (B:Nat) (w:World) (t:Tree) (m d:Int) (e:Ending) (w':World):Prop :=
 e = .returned (.bool (okS t m d))∧Below B w w'∧(okS t m d = true→Chk w' B (m + zAe t))
set_option maxHeartbeats 4000000 in
theorem chk_any (t:Tree):∀ (w:World) (B g o:Nat) (A:Option Addr) (cap:Nat) (rs:List Value) (m d:Int) (_:zEu w (Lt B) g o t A cap rs) (_:Chk w B m) (_:0≤m∧m≤1000) (_:0≤d∧d≤1000),
  Calls Tryz.prog 85 #[.pointer (some ⟨B,0,none⟩),.pointer (some ⟨g,o,none⟩),.int .i64 d] w (zNn B w t m d):=by
 induction t using Tree.ind with
 | h t ih =>
 obtain ⟨tk,tx,tc,ts⟩:=t
 intro w B g o A cap rs m d hN hC ⟨hm0,hm1⟩ ⟨hd0,hd1⟩
 have HNA:=hid hN
 obtain ⟨⟨c0,c1,c2,c3⟩,hg,htx,hcap,hmax,hrd,hls⟩:=hN
 simp only [Tree.kind,Tree.text,Tree.cols,Tree.kids] at *
 have hlen:ts.length≤9223372036854775807:=by unfold maxLen at hmax;omega
 have HS:Hid (okS (.mk tk tx tc ts) m d = (decide (m + 1≤1000) && (decide (d≤24) && ((zCh tk tx && zA5 tk tc ts.length) && oksS tk ts (m + 1) (d + 1))))):=by show _ = _;rw [okS]
 have HCN:Hid (zAe (.mk tk tx tc ts) = 1 + zAd ts):=by show _ = _;rw [zAe]
 have HB1:Hid (Below B w (w.setCell ⟨B,39,none⟩ (.int .i64 (m + 1)))):=by show Below _ _ _;exact (Below.refl B w).setCell (p:=⟨B,39,none⟩) (Nat.le_refl _) _
 have HC1:=hid (hC.set (m + 1))
 have k39:=hC.2.1
 have f39:=hC.2.2
 have HIH:=hid ih
 clear hC hrd hls ih
 by_cases h1:m + 1≤1000
 rotate_left
 ·have d1:decide (1000 < m + 1) = true:=by simp;omega
  have HF:Hid (okS (.mk tk tx tc ts) m d = false):=by show _ = _;rw [HS.out,decide_eq_false h1];rfl
  go_enter Tryz.func85,Tryz.ntmps85
  go_wp2_with fail
  go_ret
  refine ⟨by rw [HF.out];rfl,HB1.out,fun h=>?_⟩
  rw [HF.out] at h;cases h
 have d1:decide (1000 < m + 1) = false:=by simp;omega
 by_cases h2:d≤24
 rotate_left
 ·have d2:decide (24 < d) = true:=by simp;omega
  have HF:Hid (okS (.mk tk tx tc ts) m d = false):=by show _ = _;rw [HS.out,decide_eq_false h2];simp
  go_enter Tryz.func85,Tryz.ntmps85
  go_wp2_with fail
  go_ret
  refine ⟨by rw [HF.out];rfl,HB1.out,fun h=>?_⟩
  rw [HF.out] at h;cases h
 have d2:decide (24 < d) = false:=by simp;omega
 have HO:Hid (Calls Tryz.prog 123 #[.pointer (some ⟨B,0,none⟩),.pointer (some ⟨g,o,none⟩)] (w.setCell ⟨B,39,none⟩ (.int .i64 (m + 1))) fun e w'=>e = .returned (.bool (zCh tk tx && zA5 tk tc ts.length))∧∃ n,w' = (w.setCell ⟨B,39,none⟩ (.int .i64 (m + 1))).drewN n):=by
  obtain ⟨⟨q0,q1,q2,q3⟩,_⟩:=HNA.out.below HB1.out
  exact own_any tk tc tx A ts.length cap B g o _ (by omega) htx q0 q1 q2 q3 HC1.out.1
 have HS2:Hid (okS (.mk tk tx tc ts) m d = ((zCh tk tx && zA5 tk tc ts.length) && oksS tk ts (m + 1) (d + 1))):=by show _ = _;rw [HS.out,decide_eq_true h1,decide_eq_true h2];rfl
 generalize (zCh tk tx && zA5 tk tc ts.length) = b at *
 clear HS
 cases b
 ·have HF:Hid (okS (.mk tk tx tc ts) m d = false):=by show _ = _;rw [HS2.out];rfl
  go_enter Tryz.func85,Tryz.ntmps85
  go_wp2_with fail
  refine HO.out.mono ?_
  rintro e w1 ⟨rfl,n1,rfl⟩
  have HB2:Hid (Below B w ((w.setCell ⟨B,39,none⟩ (.int .i64 (m + 1))).drewN n1)):=HB1.out.trans ⟨rfl,rfl,rfl,Nat.le_refl _,fun _ _=>rfl⟩
  go_wp2_with fail
  go_ret
  refine ⟨by rw [HF.out];rfl,HB2.out,fun h=>?_⟩
  rw [HF.out] at h;cases h
 ·have HS3:Hid (okS (.mk tk tx tc ts) m d = oksS tk ts (m + 1) (d + 1)):=by show _ = _;rw [HS2.out];rfl
  go_enter Tryz.func85,Tryz.ntmps85
  go_wp2_with fail
  refine HO.out.mono ?_
  rintro e w1 ⟨rfl,n1,hw1⟩
  have HB2:Hid (Below B w w1):=by rw [hw1];exact HB1.out.trans ⟨rfl,rfl,rfl,Nat.le_refl _,fun _ _=>rfl⟩
  have HC2:Hid (Chk w1 B (m + 1)):=by rw [hw1];exact HC1.out.drew n1
  have c3':=(HNA.out.below HB2.out).1.2.2.2
  simp only [Tree.kids] at c3'
  clear hw1 HO HC1 HB1 c0 c1 c2 c3 k39 f39 d1 d2 HS2
  go_wp2_with fail
  go_loopw [35] (fun i wr=>Below B w wr∧∃ (k:Nat),k≤ts.length∧i = .int .i64 k∧Chk wr B (m + 1 + (zAd (ts.take k):Nat))∧m + 1 + (zAd (ts.take k):Nat)≤1000∧oksS tk (ts.drop k) (m + 1 + (zAd (ts.take k):Nat)) (d + 1) = oksS tk ts (m + 1) (d + 1)) (fun i _=>ts.length - (intOf i).toNat)
  case atStart=>exact ⟨HB2.out,0,Nat.zero_le _,rfl,by simpa [zAd] using HC2.out,by simp [zAd];omega,by simp [zAd]⟩
  case round =>
   obtain ⟨hb,k,hk,rfl,hck,hle,hrest⟩:=hrel
   have HR:=hid hrest
   have HB:=hid hb
   have HCK:=hid hck
   obtain ⟨⟨c0,c1,c2,c3⟩,_,_,_,_,hrd,hls⟩:=HNA.out.below hb
   simp only [Tree.kind,Tree.text,Tree.cols,Tree.kids] at c0 c1 c2 c3 hls
   clear hrest hb hck c3'
   by_cases hlt:k < ts.length
   ·obtain ⟨g',o',A',cap',rs',rfl,hg',e0,e1,e2,e3,_,_,hts,hc5,hc6,hrd',hls'⟩:=zAy hrd hls hlt
    have HK:Hid (zEu wr (Lt B) g' (o' + k * 4) ts[k] A' cap' rs'):=⟨⟨e0,e1,e2,e3⟩,hg',hts,hc5,hc6,hrd',hls'⟩
    have hmem:ts[k] ∈ ts:=List.getElem_mem hlt
    have HT:=hid (zP6 tk (m + 1) (d + 1) hlt)
    have i0:(k:Int) < (ts.length:Int):=by omega
    have HM:Hid (0≤m + 1 + (zAd (ts.take k):Nat)∧m + 1 + (zAd (ts.take k):Nat)≤1000):=by show _∧_;omega
    have HCO:Hid (m + 1 + ((zAd (ts.take (k + 1)):Nat):Int) = m + 1 + (zAd (ts.take k):Nat) + zAe ts[k]):=by show _ = _;rw [zBa hlt];omega
    generalize hmm:m + 1 + ((zAd (ts.take k):Nat):Int) = M at *
    have HCC:Hid (Calls Tryz.prog 85 #[.pointer (some ⟨B,0,none⟩),.pointer (some ⟨g',o' + k * 4,none⟩),.int .i64 (d + 1)] wr.drew (zNn B wr.drew ts[k] M (d + 1))) :=
     HIH.out ts[k] hmem wr.drew B g' (o' + k * 4) A' cap' rs' M (d + 1) (HK.out.below ⟨rfl,rfl,rfl,Nat.le_refl _,fun _ _=>rfl⟩) (HCK.out.drew 1) HM.out (by omega)
    have KW:Hid (∀ W,Below B wr W→(W.cell? ⟨g,o,none⟩ = some (.int .i64 tk)∧W.cell? ⟨g,o + 3,none⟩ = some (.slice (some ⟨g',o',none⟩) ts.length cap)∧W.cell? ⟨g',o' + k * 4,none⟩ = some (.int .i64 ts[k].kind))):=by
     intro W hW
     have h:=(bcell hW).1
     exact ⟨(h _ _ hg).trans c0,(h _ _ hg).trans c3,(h _ _ hg').trans e0⟩
    have HOK1:Hid (okS ts[k] M (d + 1) = true→M + zAe ts[k]≤1000):=fun h=>by
     rw [zP7] at h
     simp only [Bool.and_eq_true,decide_eq_true_eq] at h
     exact h.2.1
    have hgB:g < B:=hg
    have hgB':g' < B:=hg'
    clear hrd hls hrd' hls' hc5 hc6 hts hle HIH hmm c1 c2 e1 e2 e3
    cases hq1:(ts[k].kind == 1) <;> cases hq2:(tk == 1)
    case false.false | true.true =>
     rw [hq1,hq2] at HT
     have HF:Hid (okS (.mk tk tx tc ts) m d = false):=by show _ = _;rw [HS3.out,← HR.out,HT.out];rfl
     go_wp2_with fail
     go_quiet (fail)
     go_wp2_with fail
     go_ret
     refine ⟨by rw [HF.out];rfl,by first | exact HB.out | exact HB.out.trans ⟨rfl,rfl,rfl,Nat.le_refl _,fun _ _=>rfl⟩,fun h=>?_⟩
     rw [HF.out] at h;cases h
    all_goals
     rw [hq1,hq2] at HT
     generalize hb3:okS ts[k] M (d + 1) = b3 at *
     unfold zNn at HCC
     rw [hb3] at HCC
     clear hb3
     cases b3
     ·have HF:Hid (okS (.mk tk tx tc ts) m d = false):=by show _ = _;rw [HS3.out,← HR.out,HT.out];rfl
      have wd:IntKind.i64.wrap (d + 1) = d + 1:=IntWalk.i64_in _ (by omega)
      go_wp2_with fail
      go_region_held3 (fun w'=>w'.cell? ⟨g,o,none⟩ = some (.int .i64 tk)∧w'.cell? ⟨g,o + 3,none⟩ = some (.slice (some ⟨g',o',none⟩) ts.length cap)∧w'.cell? ⟨g',o' + k * 4,none⟩ = some (.int .i64 ts[k].kind)) (go_keep) (first
       | (go_at_call 85;with_reducible refine HCC.out.mono ?_;rintro e w3 ⟨rfl,hb3,_⟩;obtain ⟨p1,p2,p3⟩:=KW.out w3 (zB4 hb3);have HP:=hid (HB.out.trans (zB4 hb3));clear hb3))
      clear wd
      go_wp2_with fail
      go_ret
      refine ⟨by rw [HF.out];rfl,HP.out,fun h=>?_⟩
      rw [HF.out] at h;cases h
     ·have HF:Hid (oksS tk (ts.drop (k + 1)) (m + 1 + (zAd (ts.take (k + 1)):Nat)) (d + 1) = oksS tk ts (m + 1) (d + 1)):=by show _ = _;rw [← HR.out,HT.out];rfl
      have wd:IntKind.i64.wrap (d + 1) = d + 1:=IntWalk.i64_in _ (by omega)
      go_wp2_with fail
      go_region_held3 (fun w'=>w'.cell? ⟨g,o,none⟩ = some (.int .i64 tk)∧w'.cell? ⟨g,o + 3,none⟩ = some (.slice (some ⟨g',o',none⟩) ts.length cap)∧w'.cell? ⟨g',o' + k * 4,none⟩ = some (.int .i64 ts[k].kind)) (go_keep) (first
       | (go_at_call 85;with_reducible refine HCC.out.mono ?_;rintro e w3 ⟨rfl,hb3,hck3⟩;obtain ⟨p1,p2,p3⟩:=KW.out w3 (zB4 hb3);have HP:=hid (HB.out.trans (zB4 hb3));have HCK3:=hid (hck3 trivial);clear hb3 hck3))
      clear wd
      go_wp2_with fail
      go_roundw
      case rel=>exact ⟨HP.out,k + 1,by omega,by go_num,by rw [HCO.out];exact HCK3.out,by rw [HCO.out];exact HOK1.out trivial,HF.out⟩
      case measure=>simp [intOf];omega
   ·have HT:Hid (ts.take k = ts):=List.take_of_length_le (by omega)
    have HF:Hid (okS (.mk tk tx tc ts) m d = true):=by show _ = _;rw [HS3.out,← HR.out,List.drop_of_length_le (by omega),oksS]
    rw [HT.out] at HCK
    clear hrd hls c0 c1 c2 c3
    go_wp2_with fail
    go_ret
    refine ⟨by rw [HF.out];rfl,HB.out,fun _=>?_⟩
    rw [HCN.out,show m + ((1 + zAd ts:Nat):Int) = m + 1 + (zAd ts:Nat) by omega]
    exact HCK.out
end Go.Proofs.YtbjcioknfjofkaaGreat
