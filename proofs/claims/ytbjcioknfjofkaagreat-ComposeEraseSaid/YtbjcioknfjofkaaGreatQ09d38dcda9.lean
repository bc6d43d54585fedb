/- Texts put together. -/
import Derived.Test.YtbjcioknfjofkaaGreatQf4e4b08f38
set_option linter.unusedVariables false
set_option linter.unusedSimpArgs false
set_option maxRecDepth 100000
namespace Go.Proofs.YtbjcioknfjofkaaGreat
open Go.RowKit
set_option maxHeartbeats 4000000 in
theorem unw_any (S:Nat→Prop) (it:Tree) (inner:List Tree) (outer:List Int) (idx:Int) (s:Nat) (Ao Ai:Option Addr) (co ci:Nat) (x0 x1 x2 x3 x4 x5 x6 x7 x8 x9 x10 x11 x12:Value) (w:World) (hv:zAa zAb w (Lt w.heap.size) it.kids (.slice Ai it.kids.length ci)) (hok:zAu it) (hct:zAe it≤900000) (hro:zAh w (fun k=>k < w.heap.size∧S k) outer (.slice Ao outer.length co)) (hs:s < it.kids.length) (hrow:it.kids[s] = rowT inner) :
  Calls Tryz.prog 55 #[.agg #[x0,x1,x2,x3,x4,x5,x6,x7,x8,x9,x10,x11,x12,.slice Ao outer.length co,.int .i64 idx,.int .i64 (s:Int),.int .i64 it.kind,.string it.text,.int .i64 it.cols,.slice Ai it.kids.length ci]] w (OpP S w ⟨4,outer,idx,inner.length,[zAr it s []],(s:Int),noT,noT⟩):=by
 obtain ⟨W0,hW0⟩:∃ W0,(w.alloc (.cells #[x0,x1,x2,x3,x4,x5,x6,x7,x8,x9,x10,x11,x12,.slice Ao outer.length co,.int .i64 idx,.int .i64 (s:Int),.int .i64 it.kind,.string it.text,.int .i64 it.cols,.slice Ai it.kids.length ci] 73)).alloc (.cells #[.int .i64 0,.slice none 0 0,.int .i64 0,.int .i64 0,.slice none 0 0,.int .i64 0,.string ⟨#[]⟩,.string ⟨#[]⟩] 67) = W0:=⟨_,rfl⟩
 have hz0:W0.heap.size = w.heap.size + 1 + 1:=by rw [← hW0];simp
 have hb0:Below w.heap.size w W0:=by rw [← hW0];exact ((Below.refl _ _).alloc (Nat.le_refl _) _).alloc (by simp) _
 have KB:Hid (∀ W,Below W0.heap.size W0 W→W.cell? ⟨w.heap.size,13,none⟩ = some (.slice Ao outer.length co)∧W.cell? ⟨w.heap.size,14,none⟩ = some (.int .i64 idx)∧W.cell? ⟨w.heap.size,15,none⟩ = some (.int .i64 (s:Int))∧W.cell? ⟨w.heap.size,16,none⟩ = some (.int .i64 it.kind)∧W.cell? ⟨w.heap.size,17,none⟩ = some (.string it.text)∧W.cell? ⟨w.heap.size,18,none⟩ = some (.int .i64 it.cols)∧W.cell? ⟨w.heap.size,19,none⟩ = some (.slice Ai it.kids.length ci)∧zAc W (w.heap.size + 1) (.cells #[.int .i64 0,.slice none 0 0,.int .i64 0,.int .i64 0,.slice none 0 0,.int .i64 0,.string ⟨#[]⟩,.string ⟨#[]⟩] 67)∧Below w.heap.size w W):=fun W hW=>by
  have ho1:zAc W w.heap.size (.cells #[x0,x1,x2,x3,x4,x5,x6,x7,x8,x9,x10,x11,x12,.slice Ao outer.length co,.int .i64 idx,.int .i64 (s:Int),.int .i64 it.kind,.string it.text,.int .i64 it.cols,.slice Ai it.kids.length ci] 73):=zAc.belowB (by rw [← hW0];exact (zAc.at0 _ _).al _) hW (by omega)
  have ho2:zAc W (w.heap.size + 1) (.cells #[.int .i64 0,.slice none 0 0,.int .i64 0,.int .i64 0,.slice none 0 0,.int .i64 0,.string ⟨#[]⟩,.string ⟨#[]⟩] 67):=zAc.belowB (by rw [← hW0];exact zAc.at1 _ _ _) hW (by omega)
  exact ⟨ho1.cell 13,ho1.cell 14,ho1.cell 15,ho1.cell 16,ho1.cell 17,ho1.cell 18,ho1.cell 19,ho2,hb0.trans (hW.mono hb0.size)⟩
 have CD:=hid (zDt it Ai ci W0 (hv.below hb0 hb0.size) hok (by omega))
 obtain ⟨m13,m14,m15,m16,m17,m18,m19,_,_⟩:=KB.out W0 (Below.refl _ _)
 have HB0:=hid hb0
 have HZ0:=hid hz0
 have HOK:=hid hok
 have HROW:=hid hrow
 have HS:=hid hs
 have HRO:=hid hro
 have i3:(0:Int)≤(s:Int):=by omega
 have i4:(s:Int) < (it.kids.length:Int):=by omega
 clear hv hok hct hro hrow hb0 hz0
 go_enter Tryz.func55,Tryz.ntmps55
 go_wp2_with fail
 refine CD.out.mono ?_
 rintro e w1 ⟨v,T,rfl,hb1,hT,hr1,hlin,hfree,_⟩
 obtain ⟨bb,x,c,rfl,hTb⟩:=zGo hr1 (by omega)
 obtain ⟨W1,hW1⟩:∃ W1,w1.alloc (Obj.cells #[.int .i64 it.kind,.string it.text,.int .i64 it.cols,.slice (some ⟨bb,x,none⟩) it.kids.length c] 24) = W1:=⟨_,rfl⟩
 have hb2:Below w1.heap.size w1 W1:=by rw [← hW1];exact blA _ _
 have hbW:Below W0.heap.size W0 W1:=hb1.trans (hb2.mono hb1.size)
 have hBB:¬ T w1.heap.size:=fun h=>by have:=(hT _ h).2;omega
 have hFB:FB W1 w1.heap.size (.int .i64 it.kind) (.string it.text) (.int .i64 it.cols) (.slice (some ⟨bb,x,none⟩) it.kids.length c):=by rw [← hW1];exact FB.new _ _ _ _ _ _ rfl
 have hN1:zC3 W1 T w1.heap.size 0 it:=⟨_,⟨hFB.1.1,hFB.1.2.1,hFB.1.2.2.1,hFB.1.2.2.2⟩,HOK.out,hr1.keep (fun q hq=>hb2.cell (hT _ hq).2) (fun _ h=>h)⟩
 have hB3:=hFB.1.2.2.2
 have hL1:zDc W1 T:=hlin.keep (fun q hq=>hb2.cell (hT _ hq).2)
 have hT1:∀ k,T k→k < W1.heap.size:=fun k hk=>Nat.lt_of_lt_of_le (hT k hk).2 hb2.size
 have hk5:=zJj hN1 (by simpa using hB3) HS.out
 rw [HROW.out] at hk5
 obtain ⟨vi,⟨_,_,_,k5⟩,_,hvi⟩:=hk5
 obtain ⟨Ai2,ci2,rfl⟩:∃ A c,vi = .slice A inner.length c:=hvi.form
 have f5:W1.frozen? ⟨bb,x + s * 4 + 3,none⟩ = false:=(hb2.frozen (p:=⟨bb,_,none⟩) (hT _ hTb).2).trans (hfree bb hTb _)
 have hTB:W0.heap.size≤bb∧bb < w1.heap.size:=hT bb hTb
 have n1:¬ w.heap.size = bb:=by have:=HB0.out.size;have:=HZ0.out;omega
 have n2':¬ bb = w.heap.size:=fun e=>n1 e.symm
 have n3:¬ w1.heap.size = bb:=by omega
 have n4:¬ bb = w1.heap.size:=by omega
 have hst:=zIq (T':=fun q=>W0.heap.size≤q∧q < W1.heap.size) (W':=W1.setCell ⟨bb,x + s * 4 + 3,none⟩ (.slice none 0 0)) (L:=[]) (S2:=fun _=>False) hL1 hT1 hBB hN1 HS.out hB3 hTb HROW.out (zAa.nil_ 0 (Nat.zero_le _) none) (fun q hq=>hq.elim) (fun k hk=>⟨(hT k hk).1,hT1 k hk⟩) (fun k hk=>hk.elim) rfl
 have e9:(W1.setCell ⟨bb,x + s * 4 + 3,none⟩ (.slice none 0 0)).cell? ⟨w1.heap.size,3,none⟩ = some (.slice (some ⟨bb,x,none⟩) it.kids.length c):=(World.cell?_setCell_other _ _ _ _ (by intro e;injection e with e;omega)).trans hB3
 have hb6:=hbW.setCell (p:=⟨bb,x + s * 4 + 3,none⟩) hTB.1 (.slice none 0 0)
 have hz6:(W1.setCell ⟨bb,x + s * 4 + 3,none⟩ (.slice none 0 0)).heap.size = W1.heap.size:=by simp [World.setCell]
 have HST:=hid hst
 have HB6:=hid hb6
 have HZ6:=hid hz6
 clear m13 m14 m15 m16 m17 m18 m19
 obtain ⟨m13,m14,m15,m16,m17,m18,m19,_,_⟩:=KB.out W1 hbW
 clear hr1 hlin hfree hN1 hb1 hb2 hbW hT hTb hBB hFB hL1 hT1 hvi hst hb6 hz6 hTB
 go_upto_region 2 with fail
 try rw [hW1]
 clear hW1
 go_upto_region 4 with fail
 clear m13 m14 m15 m16 m17 m18 m19 k5 f5 hB3
 generalize W1.setCell ⟨bb,x + s * 4 + 3,none⟩ (.slice none 0 0) = W6 at *
 obtain ⟨v6,⟨e0,e1,e2,e3⟩,hok6,hr6⟩:=HST.out
 simp only [Nat.zero_add] at e1 e2 e3
 obtain rfl:v6 = _:=Option.some.inj (e3.symm.trans e9)
 change W6.cell? ⟨w1.heap.size,0,none⟩ = some (.int .i64 it.kind) at e0
 change W6.cell? ⟨w1.heap.size,1,none⟩ = some (.string it.text) at e1
 change W6.cell? ⟨w1.heap.size,2,none⟩ = some (.int .i64 it.cols) at e2
 obtain ⟨m13,m14,m15,_,_,_,_,ho2,hbw⟩:=KB.out W6 HB6.out
 have HO2:=hid (ho2.al (.cells #[.int .i64 it.kind,.string it.text,.int .i64 it.cols,.slice (some ⟨bb,x,none⟩) it.kids.length c] 24))
 have HL:=hid (litS (T:=24) (S:=fun q=>W0.heap.size≤q∧q < W1.heap.size) (fun q hq=>by rw [HZ6.out];exact hq.2) (show zAu (.mk it.kind it.text it.cols (zAr it s []).kids) from hok6) hr6)
 have HBF:=hid (hbw.trans ((blA W6 (.cells #[.int .i64 it.kind,.string it.text,.int .i64 it.cols,.slice (some ⟨bb,x,none⟩) it.kids.length c] 24)).mono hbw.size))
 have HB6s:=hid HB6.out.size
 have m15a:=((blA W6 (.cells #[.int .i64 it.kind,.string it.text,.int .i64 it.cols,.slice (some ⟨bb,x,none⟩) it.kids.length c] 24)).cell (p:=⟨w.heap.size,15,none⟩) (zBd m15)).trans m15
 clear e3 hok6 hr6 hbw ho2 HST
 go_wp2_with (first
  | (refine wpList_store_row rfl 67 (.tmp 2) (.tmp 31) rfl (w.heap.size + 1) _ rfl rfl 67 _ HO2.out (by kernel_rfl) (by simp) (by simp [Value.oneCell']) ?_)
  | fail)
 refine bodyPost_ret (v:=.agg #[.int .i64 4,.slice Ao outer.length co,.int .i64 idx,.int .i64 inner.length,.slice (some ⟨W6.heap.size,0,none⟩) 1 1,.int .i64 (s:Int),.string ⟨#[]⟩,.string ⟨#[]⟩]) (results_cell_row Tryz.results55 _ _ (w.heap.size + 1) 67 _ (0,0) _ rfl (setRow_heap _ _ _ _ _ _ HO2.out) Tryz.underlying67 rfl (by kernel_rfl)) rfl ?_
 have hz:=HZ0.out
 have hbf:=HBF.out
 have hb6s:=HB6s.out
 exact ⟨_,_,some ⟨W6.heap.size,0,none⟩,1,rfl,HRO.out.keep (fun q hq=>(World.cell?_of_block (setRow_other _ _ _ _ (by have:q.block < w.heap.size:=hq.1;omega))).trans (hbf.cell hq.1)) (fun k hk=>⟨by rw [size_setRow];exact Nat.lt_of_lt_of_le hk.1 hbf.size,.inl hk.2⟩),
  HL.out.keep (fun q hq=>World.cell?_of_block (setRow_other _ _ _ _ (by rcases hq with hq | hq <;> omega))) (fun k hk=>by
   rw [size_setRow]
   have hb0s:=HB0.out.size
   rcases hk with hk | hk
   ·rw [← HZ6.out] at hk;exact ⟨Nat.lt_of_lt_of_le hk.2 (by simp),.inr (by omega)⟩
   ·rw [hk];exact ⟨by simp,.inr (by omega)⟩),zAk hbf (by omega) _⟩
end Go.Proofs.YtbjcioknfjofkaaGreat
