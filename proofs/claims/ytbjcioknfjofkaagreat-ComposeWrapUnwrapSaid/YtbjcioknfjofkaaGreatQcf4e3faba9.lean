/- Texts put together. -/
import Derived.Test.YtbjcioknfjofkaaGreatQb1399439dd
import Derived.Test.YtbjcioknfjofkaaGreatQ54c061e6e4
import Derived.Test.YtbjcioknfjofkaaGreatQ6ad3215cf8
import Derived.Test.YtbjcioknfjofkaaGreatQeec56e20b2
import Derived.Shelf.Abstract
import Derived.Deep.QuietTactic
import Derived.BigQuiet
import Derived.Deep.RegionHeld3
set_option linter.unusedVariables false
set_option linter.unusedSimpArgs false
set_option maxRecDepth 100000
namespace Go.Proofs.YtbjcioknfjofkaaGreat
open Go.RowKit Go.Shelf
def Cells (w:World) (B:Nat):Prop :=
 (w.cell? ⟨B,4,none⟩ = some (.int .i64 0)∧w.cell? ⟨B,5,none⟩ = some (.func (.func 117) #[] #[])) ∧
 (w.cell? ⟨B,7,none⟩ = some (.int .i64 0)∧w.cell? ⟨B,8,none⟩ = some (.func (.func 118) #[] #[])) ∧
 (w.cell? ⟨B,10,none⟩ = some (.int .i64 0)∧w.cell? ⟨B,11,none⟩ = some (.func (.func 119) #[] #[])) ∧
 (w.cell? ⟨B,13,none⟩ = some (.int .i64 0)∧w.cell? ⟨B,14,none⟩ = some (.func (.func 120) #[] #[])) ∧
 (w.cell? ⟨B,16,none⟩ = some (.int .i64 2)∧w.cell? ⟨B,17,none⟩ = some (.func (.func 117) #[] #[])) ∧
 (w.cell? ⟨B,19,none⟩ = some (.int .i64 2)∧w.cell? ⟨B,20,none⟩ = some (.func (.func 117) #[] #[])) ∧
 (w.cell? ⟨B,22,none⟩ = some (.int .i64 2)∧w.cell? ⟨B,23,none⟩ = some (.func (.func 117) #[] #[])) ∧
 (w.cell? ⟨B,25,none⟩ = some (.int .i64 2)∧w.cell? ⟨B,26,none⟩ = some (.func (.func 117) #[] #[])) ∧
 (w.cell? ⟨B,28,none⟩ = some (.int .i64 3)∧w.cell? ⟨B,29,none⟩ = some (.func (.func 117) #[] #[])) ∧
 (w.cell? ⟨B,31,none⟩ = some (.int .i64 1)∧w.cell? ⟨B,32,none⟩ = some (.func (.func 121) #[] #[])) ∧
 (w.cell? ⟨B,34,none⟩ = some (.int .i64 1)∧w.cell? ⟨B,35,none⟩ = some (.func (.func 122) #[] #[])) ∧
 (w.cell? ⟨B,37,none⟩ = some (.int .i64 0)∧w.cell? ⟨B,38,none⟩ = some (.func (.func 117) #[] #[]))
theorem same_dn {P:Program} {f:FuncId} {args:Array Value} {W:World} {v:Value} (h:Calls P f args W fun e w'=>e = .returned v∧W = w'):Calls P f args W fun e w'=>e = .returned v∧∃ n,w' = W.drewN n :=
 h.mono fun e w' ⟨h1,h2⟩=>⟨h1,0,by subst h2;rfl⟩
theorem kidsS_out (k c:Int) (n:Nat) (h:k < 1∨12 < k):kidsS k c n = false:=by
 unfold kidsS
 rw [if_neg (by omega)]
 split
 ·rfl
 ·rw [if_neg (by omega),if_neg (by omega),if_neg (by omega),if_neg (by omega),if_neg (by omega)]
set_option maxHeartbeats 4000000 in
theorem own_any (k c:Int) (s:ByteArray) (A:Option Addr) (n cap B g o:Nat) (w:World) (hn:n≤maxLen) (hs:s.size≤maxLen)
  (c0:w.cell? ⟨g,o,none⟩ = some (.int .i64 k)) (c1:w.cell? ⟨g,o + 1,none⟩ = some (.string s)) (c2:w.cell? ⟨g,o + 2,none⟩ = some (.int .i64 c)) (c3:w.cell? ⟨g,o + 3,none⟩ = some (.slice A n cap))
  (hK:Cells w B) :
  Calls Tryz.prog 123 #[.pointer (some ⟨B,0,none⟩),.pointer (some ⟨g,o,none⟩)] w fun e w'=>e = .returned (.bool (textS k s && kidsS k c n))∧∃ n,w' = w.drewN n:=by
 by_cases h1:k < 1
 ·rw [kidsS_out k c n (.inl h1),Bool.and_false]
  have d1:decide (k < 1) = true:=decide_eq_true h1
  clear hK
  go_enter Tryz.func123,Tryz.ntmps123
  go_wp2_with fail
  go_quiet (fail)
  go_wp2_with fail
  go_ret
  exact ⟨rfl,_,rfl⟩
 by_cases h2:12 < k
 ·rw [kidsS_out k c n (.inr h2),Bool.and_false]
  have d1:decide (k < 1) = false:=decide_eq_false h1
  have d2:decide (12 < k) = true:=decide_eq_true h2
  clear hK
  go_enter Tryz.func123,Tryz.ntmps123
  go_wp2_with fail
  go_quiet (fail)
  go_wp2_with fail
  go_ret
  exact ⟨rfl,_,rfl⟩
 have hk:k = 1∨k = 2∨k = 3∨k = 4∨k = 5∨k = 6∨k = 7∨k = 8∨k = 9∨k = 10∨k = 11∨k = 12:=by omega
 obtain ⟨⟨a1,b1⟩,⟨a2,b2⟩,⟨a3,b3⟩,⟨a4,b4⟩,⟨a5,b5⟩,⟨a6,b6⟩,⟨a7,b7⟩,⟨a8,b8⟩,⟨a9,b9⟩,⟨a10,b10⟩,⟨a11,b11⟩,⟨a12,b12⟩⟩:=hK
 rcases hk with rfl | rfl | rfl | rfl | rfl | rfl | rfl | rfl | rfl | rfl | rfl | rfl
 ·exact own_1 c s A n cap B g o (textS 1 s) w hn c0 c1 c2 c3 a1 b1 (hid fun W=>same_dn (empty_q s W))
 ·exact own_gen 2 118 0 (by show _∧_;omega) (hid fun n=>by unfold kidsS;simp) (enters_of Tryz.func118 (by kernel_rfl) rfl) (by decide) (by decide) (by decide) (by decide) (by decide) (by decide) (by decide) c s A n cap B g o (textS 2 s) w hn c0 c1 c2 c3 a2 b2 (hid fun W=>same_dn (nSymbol_q s W hs))
 ·exact own_gen 3 119 0 (by show _∧_;omega) (hid fun n=>by unfold kidsS;simp) (enters_of Tryz.func119 (by kernel_rfl) rfl) (by decide) (by decide) (by decide) (by decide) (by decide) (by decide) (by decide) c s A n cap B g o (textS 3 s) w hn c0 c1 c2 c3 a3 b3 (hid fun W=>nNumber_q s W hs)
 ·exact own_gen 4 120 0 (by show _∧_;omega) (hid fun n=>by unfold kidsS;simp) (enters_of Tryz.func120 (by kernel_rfl) rfl) (by decide) (by decide) (by decide) (by decide) (by decide) (by decide) (by decide) c s A n cap B g o (textS 4 s) w hn c0 c1 c2 c3 a4 b4 (hid fun W=>same_dn (plain_q s W hs))
 ·exact own_gen 5 117 2 (by show _∧_;omega) (hid fun n=>by unfold kidsS;simp) (enters_of Tryz.func117 (by kernel_rfl) rfl) (by decide) (by decide) (by decide) (by decide) (by decide) (by decide) (by decide) c s A n cap B g o (textS 5 s) w hn c0 c1 c2 c3 a5 b5 (hid fun W=>same_dn (empty_q s W))
 ·exact own_gen 6 117 2 (by show _∧_;omega) (hid fun n=>by unfold kidsS;simp) (enters_of Tryz.func117 (by kernel_rfl) rfl) (by decide) (by decide) (by decide) (by decide) (by decide) (by decide) (by decide) c s A n cap B g o (textS 6 s) w hn c0 c1 c2 c3 a6 b6 (hid fun W=>same_dn (empty_q s W))
 ·exact own_gen 7 117 2 (by show _∧_;omega) (hid fun n=>by unfold kidsS;simp) (enters_of Tryz.func117 (by kernel_rfl) rfl) (by decide) (by decide) (by decide) (by decide) (by decide) (by decide) (by decide) c s A n cap B g o (textS 7 s) w hn c0 c1 c2 c3 a7 b7 (hid fun W=>same_dn (empty_q s W))
 ·exact own_gen 8 117 2 (by show _∧_;omega) (hid fun n=>by unfold kidsS;simp) (enters_of Tryz.func117 (by kernel_rfl) rfl) (by decide) (by decide) (by decide) (by decide) (by decide) (by decide) (by decide) c s A n cap B g o (textS 8 s) w hn c0 c1 c2 c3 a8 b8 (hid fun W=>same_dn (empty_q s W))
 ·exact own_gen 9 117 3 (by show _∧_;omega) (hid fun n=>by unfold kidsS;simp) (enters_of Tryz.func117 (by kernel_rfl) rfl) (by decide) (by decide) (by decide) (by decide) (by decide) (by decide) (by decide) c s A n cap B g o (textS 9 s) w hn c0 c1 c2 c3 a9 b9 (hid fun W=>same_dn (empty_q s W))
 ·exact own_gen 10 121 1 (by show _∧_;omega) (hid fun n=>by unfold kidsS;simp) (enters_of Tryz.func121 (by kernel_rfl) rfl) (by decide) (by decide) (by decide) (by decide) (by decide) (by decide) (by decide) c s A n cap B g o (textS 10 s) w hn c0 c1 c2 c3 a10 b10 (hid fun W=>same_dn (accent_q s W))
 ·exact own_gen 11 122 1 (by show _∧_;omega) (hid fun n=>by unfold kidsS;simp) (enters_of Tryz.func122 (by kernel_rfl) rfl) (by decide) (by decide) (by decide) (by decide) (by decide) (by decide) (by decide) c s A n cap B g o (textS 11 s) w hn c0 c1 c2 c3 a11 b11 (hid fun W=>same_dn (fence_q s W hs))
 ·exact own_12 c s A n cap B g o (textS 12 s) w hn c0 c1 c2 c3 a12 b12 (hid fun W=>same_dn (empty_q s W))
end Go.Proofs.YtbjcioknfjofkaaGreat
namespace Go.Proofs.YtbjcioknfjofkaaGreat
open Go.RowKit
theorem SliceR.drew {α:Type} {E:Enc α} {w:World} {xs:List α} {v:Value} (h:SliceR E w (Lt w.heap.size) xs v):SliceR E w.drew (Lt w.drew.heap.size) xs v:=h.keep (fun _ _=>rfl) (fun _ h=>h)
set_option maxHeartbeats 2000000 in
theorem unwrap_eq (kind:Int) (row:List Int) (n:Int) (nodes:List Tree) (old text:ByteArray) (k:Nat) (index slot r:Int) (rest:List Int) (Ar An As:Option Addr) (lr cr ln cn cs:Nat) (w:World)
  (hp:(⟨⟨kind,row,index,n,nodes,slot,old,text⟩,k,index,true,slot,r :: rest⟩:PlaceD).Ok) (hs:IntsR w (Lt w.heap.size) (r :: rest) (.slice As (rest.length + 1) cs)) :
  Calls Tryz.prog 134 #[.agg #[.int .i64 kind,.slice Ar lr cr,.int .i64 index,.int .i64 n,.slice An ln cn,.int .i64 slot,.string old,.string text,.int .i64 k,.int .i64 index,.bool true,.int .i64 slot,.slice As (rest.length + 1) cs]] w
   (PairPost w ((index + r) :: rest,false)):=by
 have hlen:rest.length + 1≤100000:=hp.len
 obtain ⟨hat1,hat2⟩:Bd 1099511627776 index:=hp.at_
 obtain ⟨hr1,hr2⟩:=hp.rest r (by simp)
 obtain ⟨A1,hsl,hcut⟩:=cut_l intE Tryz.underlying31 size_int As (rest.length + 1) cs 1 1 rfl (by omega)
 have hcut':=hcut _ _ _ hs
 simp only [List.drop_succ_cons,List.drop_zero,Nat.add_sub_cancel] at hcut' hsl
 have HCU:=hid hcut'
 obtain ⟨A,cap,rs,e,hc1,hc2,hrd,hls⟩:=hs
 injection e with e1 e2 e3
 subst e1 e3
 obtain ⟨g,o,rfl,hg,hi,c0⟩:=ints_at hrd hls (k:=0) (by simp)
 simp only [List.getElem_cons_zero,Nat.add_zero] at c0
 have hg':g < w.heap.size:=hg
 have hrin:=in64_of (x:=index + r) (by omega) (by omega)
 have i1:(0:Int) < ((rest.length + 1:Nat):Int):=by omega
 have HIN:=hid hrin
 clear hrd hls hc1 hc2 e2 hcut hcut' hp hi
 go_enter Tryz.func134,Tryz.ntmps134
 go_wp2_with fail
 go_quiet (fail)
 go_wp2_with fail
 obtain ⟨W,hW⟩:∃ W,W = (w.alloc (.cells #[.int .i64 kind,.slice Ar lr cr,.int .i64 index,.int .i64 n,.slice An ln cn,.int .i64 slot,.string old,.string text,.int .i64 k,.int .i64 index,.bool true,.int .i64 slot,.slice (some ⟨g,o,none⟩) (rest.length + 1) cs] 130)).drewN nq:=⟨_,rfl⟩
 have hbW:Below w.heap.size w W:=by rw [hW];exact below_draw (below_alloc _ _) _
 have hsW:W.heap.size = w.heap.size + 1:=by rw [hW];simp [World.drewN]
 have cW:W.cell? ⟨w.heap.size,12,none⟩ = some (.slice (some ⟨g,o,none⟩) (rest.length + 1) cs):=by rw [hW];exact World.cell?_alloc_new _ _ _ _
 have dW:W.cell? ⟨g,o,none⟩ = some (.int .i64 r):=((bcell hbW).1 _ _ hg').trans c0
 have HCW:=hid (HCU.out.below hbW hbW.size)
 rw [← hW]
 have hw1:IntKind.i64.wrap (index + r) = index + r:=IntWalk.i64_in _ (by omega)
 have hsz:w.heap.size < W.heap.size:=by omega
 have hgz:g < W.heap.size:=by omega
 have HB:=hid hbW
 clear hW c0 hsW hbW
 have HM:=hid (ints_lit W [index + r] (by simpa using HIN.out) (S:=Lt (W.alloc (.cells #[.int .i64 (index + r)] 3)).heap.size) (by unfold Lt;simp) #[.int .i64 (index + r)] 1 rfl rfl (by simp [maxLen]) 3 W.heap.size rfl)
 have HC:=hid (SliceR.drew (rows2 HM.out (HCW.out.alloc (.cells #[.int .i64 (index + r)] 3)) 31 rfl (fun _ h=>h) (W.heap.size + 1) (by simp)))
 have HF:Hid ([[index + r],rest].flatten.length≤1000000):=by show _≤_;simp;omega
 obtain ⟨W3,hW3⟩:∃ W3,W3 = ((W.alloc (.cells #[.int .i64 (index + r)] 3)).alloc (.cells #[.slice (some ⟨W.heap.size,0,none⟩) 1 1,.slice A1 rest.length (cs - 1)] 31)).drew:=⟨_,rfl⟩
 have hb3:Below W.heap.size W W3:=by rw [hW3];exact ((below_alloc _ _).trans ((below_alloc _ _).mono (by simp))).drew
 have KEEP:Hid (∀ w1,Below W3.heap.size W3 w1→w1.cell? ⟨w.heap.size,12,none⟩ = some (.slice (some ⟨g,o,none⟩) (rest.length + 1) cs)∧w1.cell? ⟨g,o,none⟩ = some (.int .i64 r)) :=
  fun w1 h=>⟨((bcell ((hb3.mono (Nat.le_refl _)).trans (h.mono hb3.size))).1 _ _ hsz).trans cW,((bcell ((hb3.mono (Nat.le_refl _)).trans (h.mono hb3.size))).1 _ _ hgz).trans dW⟩
 have HB3:=hid hb3
 rw [hW3] at KEEP HB3
 clear hb3 hW3 W3
 go_region_held3 (fun w'=>w'.cell? ⟨w.heap.size,12,none⟩ = some (.slice (some ⟨g,o,none⟩) (rest.length + 1) cs)∧w'.cell? ⟨g,o,none⟩ = some (.int .i64 r)) (go_keep) (first | (go_at_call 73;refine (concat_any [[index + r],rest] _ _ HC.out HF.out).mono ?_;rintro e w1 ⟨v1,rfl,hown1,hb1⟩;obtain ⟨q1,q2⟩:=KEEP.out w1 hb1))
 have HO:=hid hown1
 have HB1:=hid hb1
 clear hown1 hb1
 go_wp2_with fail
 go_ret2
 refine ⟨_,rfl,by have h:=HO.out.ints (S:=Lt w1.heap.size) (fun _ _ h=>h);simpa using h,?_⟩
 have h2:=HB3.out.mono HB.out.size
 exact HB.out.trans (h2.trans (HB1.out.mono (HB.out.trans h2).size))
end Go.Proofs.YtbjcioknfjofkaaGreat
