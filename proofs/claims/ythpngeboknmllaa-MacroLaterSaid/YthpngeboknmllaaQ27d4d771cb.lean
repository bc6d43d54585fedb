/- Texts put together. -/
import Derived.Test.YthpngeboknmllaaQc887edb4c0
import Derived.Test.YthpngeboknmllaaQ20f286d0e6
set_option linter.unusedVariables false
set_option linter.unusedSimpArgs false
set_option maxRecDepth 100000
namespace Go.Proofs.Ythpngeboknmllaa
open Go.RowKit
set_option maxHeartbeats 4000000 in
theorem rplace19_any (t:Tree) (A:Option Addr) (cap:Nat) (w:World) (hs:t.text.size≤maxLen) (hl:t.kids.length≤maxLen) :
  Calls Try.prog 48 #[.agg #[.int .i64 t.kind,.string t.text,.int .i64 t.cols,.slice A t.kids.length cap]] w fun e w'=>∃ k:Int,e = .returned (.int .i64 k)∧0≤k∧k≤4∧Below w.heap.size w w':=by
 obtain ⟨k,s,c,ts⟩:=t
 simp only [Tree.kind,Tree.text,Tree.cols,Tree.kids] at *
 generalize ts.length = n at *
 unfold maxLen at hs hl
 by_cases h0:k = 2
 rotate_left
 ·have e0:(k == 2) = false:=by simpa using h0
  clear h0
  go_enter Try.func48,Try.ntmps48
  go_wp2_with fail
  go_ret
  exact ⟨0,rfl,by omega,by omega,blA _ _⟩
 have e0:(k == 2) = true:=by simpa using h0
 by_cases h1:s.size = 2
 rotate_left
 ·have e1:((s.size:Int) == 2) = false:=by simp;omega
  clear h1
  go_enter Try.func48,Try.ntmps48
  go_wp2_with fail
  go_ret
  exact ⟨0,rfl,by omega,by omega,blA _ _⟩
 have e1:((s.size:Int) == 2) = true:=by simp;omega
 have g0:0 < s.size:=by omega
 have g1:1 < s.size:=by omega
 have i0:(0:Int) < (s.size:Int):=by omega
 have i1:(1:Int) < (s.size:Int):=by omega
 have q1:(s[1].toNat:Int)≤255:=by have:=s[1].toNat_lt;omega
 by_cases h2:(s[0].toNat:Int) = 35
 rotate_left
 ·have e2:((s[0].toNat:Int) == 35) = false:=by simpa using h2
  clear h2
  go_enter Try.func48,Try.ntmps48
  go_wp2_with fail
  go_ret
  exact ⟨0,rfl,by omega,by omega,blA _ _⟩
 have e2:((s[0].toNat:Int) == 35) = true:=by simpa using h2
 by_cases h3:49≤(s[1].toNat:Int)
 rotate_left
 ·have e3:decide ((49:Int)≤(s[1].toNat:Int)) = false:=by simpa using h3
  clear h3
  go_enter Try.func48,Try.ntmps48
  go_wp2_with fail
  go_ret
  exact ⟨0,rfl,by omega,by omega,blA _ _⟩
 have e3:decide ((49:Int)≤(s[1].toNat:Int)) = true:=by simpa using h3
 by_cases h4:(s[1].toNat:Int)≤52
 rotate_left
 ·have e4:decide ((s[1].toNat:Int)≤52) = false:=by simpa using h4
  clear h4
  go_enter Try.func48,Try.ntmps48
  go_wp2_with fail
  go_ret
  exact ⟨0,rfl,by omega,by omega,blA _ _⟩
 have e4:decide ((s[1].toNat:Int)≤52) = true:=by simpa using h4
 by_cases h5:n = 0
 rotate_left
 ·have e5:((n:Int) == 0) = false:=by simp;omega
  clear h5
  go_enter Try.func48,Try.ntmps48
  go_wp2_with fail
  go_ret
  exact ⟨0,rfl,by omega,by omega,blA _ _⟩
 have e5:((n:Int) == 0) = true:=by simp;omega
 by_cases h6:c = 0
 rotate_left
 ·have e6:(c == 0) = false:=by simpa using h6
  clear h6
  go_enter Try.func48,Try.ntmps48
  go_wp2_with fail
  go_ret
  exact ⟨0,rfl,by omega,by omega,blA _ _⟩
 have e6:(c == 0) = true:=by simpa using h6
 have v1:IntKind.u8.wrap ((s[1].toNat:Int) - 48) = (s[1].toNat:Int) - 48:=by unfold IntKind.wrap;simp [IntKind.bits,IntKind.signed];omega
 have v2:IntKind.i64.wrap ((s[1].toNat:Int) - 48) = (s[1].toNat:Int) - 48:=IntWalk.i64_in _ (by omega)
 have HR:Hid (0≤(s[1].toNat:Int) - 48∧(s[1].toNat:Int) - 48≤4):=⟨by omega,by omega⟩
 clear h0 h1 h2 h3 h4 h5 h6
 go_enter Try.func48,Try.ntmps48
 go_wp2_with fail
 go_ret
 exact ⟨_,rfl,HR.out.1,HR.out.2,blA _ _⟩
def PlainP (w:World) (t:Tree) (e:Ending) (w':World):Prop :=
 ∃ x v,e = .returned (.agg #[.int .i64 x.kind,.string x.text,.int .i64 x.cols,v])∧SliceR treeE w' (fun q=>w.heap.size≤q∧q < w'.heap.size) x.kids v∧NodeOk x∧countS x = countS t∧Below w.heap.size w w'
set_option maxHeartbeats 8000000 in
theorem rplain19_any (t:Tree):∀ (A:Option Addr) (cap:Nat) (w:World),SliceR treeE w (Lt w.heap.size) t.kids (.slice A t.kids.length cap)→NodeOk t→countS t≤1000000 →
  Calls Try.prog 39 #[.agg #[.int .i64 t.kind,.string t.text,.int .i64 t.cols,.slice A t.kids.length cap]] w (PlainP w t):=by
 induction t using Tree.ind with
 | h t ih =>
 obtain ⟨kk,kx,kc,ts⟩:=t
 intro A cap w hv hok hct
 simp only [Tree.kind,Tree.text,Tree.cols,Tree.kids] at hv ⊢
 obtain ⟨W0,hW0⟩:∃ W0,(w.alloc (.cells #[.int .i64 kk,.string kx,.int .i64 kc,.slice A ts.length cap] 31)).alloc (.cells #[.int .i64 0,.string ⟨#[]⟩,.int .i64 0,.slice none 0 0] 31) = W0:=⟨_,rfl⟩
 have hb0:Below w.heap.size w W0:=by rw [← hW0];exact blAlloc (blA _ _) _
 have ho0:HasObj W0 w.heap.size (.cells #[.int .i64 kk,.string kx,.int .i64 kc,.slice A ts.length cap] 31):=by rw [← hW0];exact (HasObj.at0 _ _).al _
 have HZ0:Hid (HasObj W0 (w.heap.size + 1) (.cells #[.int .i64 0,.string ⟨#[]⟩,.int .i64 0,.slice none 0 0] 31)):=by show HasObj _ _ _;rw [← hW0];exact HasObj.at1 _ _ _
 have HB0:=hid hb0
 have HO0:=hid ho0
 have hlen:ts.length≤1000000:=by rw [countS] at hct;have:=countsS_len ts;omega
 have HCT:Hid (countS (.mk kk kx kc ts) = 1 + countsS ts∧countsS ts≤1000000):=⟨by rw [countS],by rw [countS] at hct;omega⟩
 have CP:Hid (Calls Try.prog 48 #[.agg #[.int .i64 kk,.string kx,.int .i64 kc,.slice A ts.length cap]] W0 fun e w'=>∃ k:Int,e = .returned (.int .i64 k)∧0≤k∧k≤4∧Below W0.heap.size W0 w'):=rplace19_any (.mk kk kx kc ts) A cap W0 hok.2.2 (by show ts.length≤_;unfold maxLen;omega)
 have HV:=hid hv
 have HOK:=hid hok
 have HIH:=hid ih
 obtain ⟨m0,m1,m2,m3⟩:=four9 ho0
 clear hv hok hct hb0 ho0 ih
 go_enter Try.func39,Try.ntmps39
 go_wp2_with fail
 refine CP.out.mono ?_
 rintro e w1 ⟨k1,rfl,hk0,hk4,hb1⟩
 have HB1:=hid (HB0.out.trans (hb1.mono HB0.out.size))
 have HO1:=hid (HO0.out.below hb1)
 have HZ1:=hid (HZ0.out.below hb1)
 clear hb1 m0 m1 m2 m3 hW0 CP HO0 HZ0 HB0 hk0 hk4
 obtain ⟨m0,m1,m2,m3⟩:=four9 HO1.out
 have f1:=HO1.out.free 1
 obtain ⟨b7,hb7⟩:∃ b7,decide (0 < k1) = b7:=⟨_,rfl⟩
 go_upto_if 7 with fail
 go_cut [3] from 8 to 8 (fun _ wx=>∃ sx:ByteArray,sx.size≤maxLen∧Below w.heap.size w wx∧HasObj wx w.heap.size (.cells #[.int .i64 kk,.string sx,.int .i64 kc,.slice A ts.length cap] 31)∧HasObj wx (w.heap.size + 1) (.cells #[.int .i64 0,.string ⟨#[]⟩,.int .i64 0,.slice none 0 0] 31))
 case first =>
  cases b7
  ·go_wp2_with fail
   go_meet
   exact ⟨kx,HOK.out.2.2,HB1.out,HO1.out,HZ1.out⟩
  ·go_wp2_with fail
   go_meet
   exact ⟨⟨#[120]⟩,by show (1:Nat)≤maxLen;simp [maxLen],HB1.out.setCell (Nat.le_refl _) _,HO1.out.set (i:=1) _,HZ1.out.far (i:=1) _ (Nat.succ_ne_self _)⟩
 case rest =>
 obtain ⟨sx,hsx,hbc,hoc,hzc⟩:=hcut
 have HSX:=hid hsx
 have HBC:=hid hbc
 have HOC:=hid hoc
 have HZC:=hid hzc
 clear hsx hbc hoc hzc m0 m1 m2 m3 f1 HB1 HO1 HZ1 hb7
 go_wp2_with fail
 go_loopw [3,4] (fun rv i wr=>Below (w.heap.size + 1 + 1) wc wr∧wc.heap.size≤wr.heap.size∧∃ (k:Nat) (L:List Tree),k≤ts.length∧i = .int .i64 k∧L.length = k∧countsS L = countsS (ts.take k)∧OwnTrees wr (w.heap.size + 1 + 1) L rv) (fun _ i _=>ts.length - (intOf i).toNat)
 case atStart=>exact ⟨Below.refl _ _,Nat.le_refl _,0,[],Nat.zero_le _,rfl,rfl,by simp [countsS],OwnTrees.nil _ _⟩
 case round =>
 obtain ⟨hbr,hsz,k,L,hk,rfl,hL,hcL,hor⟩:=hrel
 obtain ⟨Ar,cr,rfl⟩:=hor.form
 have HBR:=hid hbr
 have HSZ:=hid hsz
 have HOR:=hid hor
 have HLL:=hid (And.intro hL hcL)
 have HOC:=hid (HOC.out.belowB hbr (by omega))
 have HZC:=hid (HZC.out.belowB hbr (by omega))
 have HBW:=hid (HBC.out.trans (hbr.mono (by omega):Below w.heap.size wc wr))
 have m3:=HOC.out.cell 3
 simp only [List.getElem?_toArray,List.getElem?_cons_zero,List.getElem?_cons_succ] at m3
 clear hbr hsz hL hcL hor
 by_cases hlt:k < ts.length
 ·have i0:(k:Int) < (ts.length:Int):=by omega
  have i00:(0:Int)≤(k:Int):=by omega
  obtain ⟨_,_,rs,hq,_,_,hrd,hls⟩:=HV.out.below HBW.out HBW.out.size
  cases hq
  obtain ⟨g2,o2,A2,c2,rs2,rfl,hg2,e0,e1,e2,e3,h64,h64',hts,q5,q6,hrd2,hls2⟩:=trees_at hrd hls hlt
  have hct:=countsS_take hlt
  have hcle:=countsS_take_le ts (k + 1)
  have HC1:=hid hct
  have CI:=hid (HIH.out ts[k] (List.getElem_mem hlt) A2 c2 wr ⟨_,_,rs2,rfl,q5,q6,hrd2,hls2⟩ ⟨h64,h64',hts⟩ (by have:=HCT.out.2;omega))
  clear hrd hls hrd2 hls2 q5 q6 h64 h64' hts hct hcle HIH
  generalize ts[k] = y at *
  go_wp2_with (first
   | (go_at_call 39;refine Calls.mono CI.out ?_;rintro e wk ⟨x,vk,rfl,hvk,hxo,hxc,hbk⟩;obtain ⟨A8,c8,rfl⟩:∃ A c,vk = .slice A x.kids.length c:=hvk.form;have HXC:=hid hxc;have HO8:=hid (HOR.out.below hbk);have HBK:=hid hbk;have HGZ:=hid (HZC.out.lt);have HONE:=hid (tree_one (t:=x) (v:=.slice Ar L.length cr) (b:=w.heap.size + 1 + 1) hxo hvk HGZ.out (fun q hq=>(HOR.out.own_lt q hq).2) hbk.size wk.heap.size rfl 31);have HOA:=hid (HO8.out.below (blA wk (.cells #[.int .i64 x.kind,.string x.text,.int .i64 x.cols,.slice A8 x.kids.length c8] 31)));have HSA:Hid (w.heap.size + 1 + 1≤(wk.alloc (.cells #[.int .i64 x.kind,.string x.text,.int .i64 x.cols,.slice A8 x.kids.length c8] 31)).heap.size):=(by show _≤_;have h1:=HGZ.out;have h2:wr.heap.size≤wk.heap.size:=HBK.out.size;simp;omega);clear hvk hxo hxc hbk)
   | (refine app_trees rfl (.tmp 16) (.tmp 23) rfl (w.heap.size + 1 + 1) _ _ [x] rfl HOA.out _ 1 1 rfl HONE.out (by have:=HLL.out.1;simp only [List.length_cons,List.length_nil];omega) HSA.out ?_;intro v9 w9 ho9 hb9;have HO9:=hid ho9;have HB9:=hid (HBR.out.trans ((HBK.out.mono (by have:=HGZ.out;omega):Below (w.heap.size + 1 + 1) wr wk).trans ((blA wk _).mono (by have:=HGZ.out;have h2:wr.heap.size≤wk.heap.size:=HBK.out.size;omega) |>.trans hb9)));have HS9:Hid (wc.heap.size≤w9.heap.size):=HB9.out.size;clear ho9 hb9)
   | fail)
  go_roundw
  case rel=>exact ⟨HB9.out,HS9.out,k + 1,L ++ [x],by omega,by go_num,by simp [HLL.out.1],by rw [countsS_app,HLL.out.2,HC1.out,countsS,countsS,HXC.out];rfl,HO9.out⟩
  case measure=>simp [intOf];omega
 ·have i0:¬ (k:Int) < (ts.length:Int):=by omega
  have HT:ts.take k = ts:=List.take_of_length_le (by omega)
  rw [HT] at HLL
  have f3:=HOC.out.free 3
  go_upto_region 9 with fail
  generalize hX:World.setCell _ _ _ = X
  have hkb:Kept (fun q=>q = w.heap.size) wr X:=by rw [← hX];exact Kept.set _ ⟨w.heap.size,3,none⟩ _
  have HOX:Hid (HasObj X w.heap.size (.cells #[.int .i64 kk,.string sx,.int .i64 kc,.slice Ar L.length cr] 31)):=by show HasObj _ _ _;rw [← hX];exact HOC.out.set (i:=3) _
  have HZX:=hid (hkb.obj HZC.out (Nat.succ_ne_self _))
  have HBX:=hid (HBW.out.trans (hkb.below (B:=w.heap.size) (Nat.le_trans HBC.out.size HSZ.out) (fun q e=>Nat.le_of_eq e.symm)))
  have HOT:=hid (HOR.out.kept hkb (fun q hq e=>by omega))
  clear hX hkb m3 f3 HT
  go_wp2_with (first
   | (refine lR 31 1 HOX.out Try.underlying31 ?_)
   | (refine sR 31 2 27 HZX.out ?_)
   | fail)
  refine bodyPost_ret (v:=.agg #[.int .i64 kk,.string sx,.int .i64 kc,.slice Ar L.length cr]) (results_cell_row Try.results39 _ _ (w.heap.size + 1) 31 _ (0,0) _ rfl (HZX.out.row _) Try.underlying31 rfl (by kernel_rfl)) rfl ?_
  exact ⟨.mk kk sx kc L,_,rfl,HOT.out.rows.keep (fun p hp=>World.cell?_of_block (setRow_other _ _ _ _ (by have h9:=hp.1;omega))) (fun q hq=>⟨by have h9:=hq.1;omega,by rw [size_setRow];exact hq.2⟩),⟨HOK.out.1,HOK.out.2.1,HSX.out⟩,by rw [countS,HCT.out.1,HLL.out.2],below_setRowB HBX.out (Nat.le_succ _) _⟩
set_option maxHeartbeats 4000000 in
theorem rgreatest_any (t:Tree):∀ (A:Option Addr) (cap:Nat) (w:World),SliceR treeE w (Lt w.heap.size) t.kids (.slice A t.kids.length cap)→NodeOk t→countS t≤1000000 →
  Calls Try.prog 40 #[.agg #[.int .i64 t.kind,.string t.text,.int .i64 t.cols,.slice A t.kids.length cap]] w fun e w'=>∃ k:Int,e = .returned (.int .i64 k)∧0≤k∧k≤4∧Below w.heap.size w w':=by
 induction t using Tree.ind with
 | h t ih =>
 obtain ⟨kk,kx,kc,ts⟩:=t
 intro A cap w hv hok hct
 simp only [Tree.kind,Tree.text,Tree.cols,Tree.kids] at hv ⊢
 obtain ⟨W0,hW0⟩:∃ W0,w.alloc (.cells #[.int .i64 kk,.string kx,.int .i64 kc,.slice A ts.length cap] 31) = W0:=⟨_,rfl⟩
 have hb0:Below w.heap.size w W0:=by rw [← hW0];exact blA _ _
 have ho0:HasObj W0 w.heap.size (.cells #[.int .i64 kk,.string kx,.int .i64 kc,.slice A ts.length cap] 31):=by rw [← hW0];exact HasObj.at0 _ _
 have HB0:=hid hb0
 have HO0:=hid ho0
 have hlen:ts.length≤1000000:=by rw [countS] at hct;have:=countsS_len ts;omega
 have HCT:Hid (countsS ts≤1000000):=by show _≤_;rw [countS] at hct;omega
 have CP:Hid (Calls Try.prog 48 #[.agg #[.int .i64 kk,.string kx,.int .i64 kc,.slice A ts.length cap]] W0 fun e w'=>∃ k:Int,e = .returned (.int .i64 k)∧0≤k∧k≤4∧Below W0.heap.size W0 w'):=rplace19_any (.mk kk kx kc ts) A cap W0 hok.2.2 (by show ts.length≤_;unfold maxLen;omega)
 have HV:=hid (hv.below hb0 hb0.size)
 have HIH:=hid ih
 obtain ⟨m0,m1,m2,m3⟩:=four9 ho0
 clear hv hok hct hb0 ho0 ih
 go_enter Try.func40,Try.ntmps40
 go_wp2_with fail
 refine CP.out.mono ?_
 rintro e w1 ⟨k1,rfl,hk0,hk4,hb1⟩
 have HB1:=hid (HB0.out.trans (hb1.mono HB0.out.size))
 have HO1:=hid (HO0.out.below hb1)
 have HV:=hid (HV.out.below hb1 hb1.size)
 have HK:=hid (And.intro hk0 hk4)
 clear hb1 m0 m1 m2 m3 hW0 CP HO0 HB0 hk0 hk4
 go_wp2_with fail
 go_loopw [3,4] (fun rv i wr=>Below w1.heap.size w1 wr∧∃ (k:Nat) (m:Int),k≤ts.length∧i = .int .i64 k∧rv = .int .i64 m∧0≤m∧m≤4) (fun _ i _=>ts.length - (intOf i).toNat)
 case atStart=>exact ⟨Below.refl _ _,0,k1,Nat.zero_le _,rfl,rfl,HK.out.1,HK.out.2⟩
 case round =>
 obtain ⟨hbr,k,m,hk,rfl,rfl,hm0,hm4⟩:=hrel
 have HBR:=hid hbr
 have HM:=hid (And.intro hm0 hm4)
 have m3:=(HO1.out.below hbr).cell 3
 simp only [List.getElem?_toArray,List.getElem?_cons_zero,List.getElem?_cons_succ] at m3
 have HV:=hid (HV.out.below hbr hbr.size)
 clear hbr hm0 hm4
 by_cases hlt:k < ts.length
 ·have i0:(k:Int) < (ts.length:Int):=by omega
  have i00:(0:Int)≤(k:Int):=by omega
  obtain ⟨_,_,rs,hq,_,_,hrd,hls⟩:=HV.out
  cases hq
  obtain ⟨g2,o2,A2,c2,rs2,rfl,hg2,e0,e1,e2,e3,h64,h64',hts,q5,q6,hrd2,hls2⟩:=trees_at hrd hls hlt
  have hct:=countsS_take hlt
  have hcle:=countsS_take_le ts (k + 1)
  have CI:=hid (HIH.out ts[k] (List.getElem_mem hlt) A2 c2 wr ⟨_,_,rs2,rfl,q5,q6,hrd2,hls2⟩ ⟨h64,h64',hts⟩ (by have:=HCT.out;omega))
  clear hrd hls hrd2 hls2 q5 q6 h64 h64' hts hct hcle HIH
  generalize ts[k] = y at *
  go_wp2_with (first
   | (go_at_call 40;refine Calls.mono CI.out ?_;rintro e wk ⟨m9,rfl,hm9,hm94,hbk⟩;have HM9:=hid (And.intro hm9 hm94);have HBK:=hid (HBR.out.trans (hbk.mono HBR.out.size));clear hm9 hm94 hbk)
   | fail)
  go_roundw
  case rel=>exact ⟨HBK.out,k + 1,_,by omega,by go_num,rfl,by have:=HM.out;have:=HM9.out;first | omega | (split <;> omega),by have:=HM.out;have:=HM9.out;first | omega | (split <;> omega)⟩
  case measure=>simp [intOf];omega
 ·have i0:¬ (k:Int) < (ts.length:Int):=by omega
  go_wp2_with fail
  go_ret
  exact ⟨m,rfl,HM.out.1,HM.out.2,HB1.out.trans (HBR.out.mono HB1.out.size)⟩
set_option maxHeartbeats 4000000 in
theorem rtemplate19_any (t:Tree) (A:Option Addr) (cap:Nat) (P:Int) (w:World) (hv:SliceR treeE w (Lt w.heap.size) t.kids (.slice A t.kids.length cap)) (hok:NodeOk t) (hct:countS t≤1000000) :
  Calls Try.prog 24 #[.agg #[.int .i64 t.kind,.string t.text,.int .i64 t.cols,.slice A t.kids.length cap],.int .i64 P] w fun e w'=>∃ b,e = .returned (.bool b)∧Below w.heap.size w w':=by
 obtain ⟨W0,hW0⟩:∃ W0,w.alloc (.cells #[.int .i64 t.kind,.string t.text,.int .i64 t.cols,.slice A t.kids.length cap] 31) = W0:=⟨_,rfl⟩
 have hb0:Below w.heap.size w W0:=by rw [← hW0];exact blA _ _
 have ho0:HasObj W0 w.heap.size (.cells #[.int .i64 t.kind,.string t.text,.int .i64 t.cols,.slice A t.kids.length cap] 31):=by rw [← hW0];exact HasObj.at0 _ _
 have HB0:=hid hb0
 have HO0:=hid ho0
 have HV:=hid (hv.below hb0 hb0.size)
 have HOK:=hid hok
 have HCT:=hid hct
 obtain ⟨m0,m1,m2,m3⟩:=four9 ho0
 clear hv hok hct hb0 ho0
 by_cases h1:0≤P
 rotate_left
 ·have d1:decide (0≤P) = false:=by simpa using h1
  clear h1
  go_enter Try.func24,Try.ntmps24
  go_wp2_with fail
  go_ret
  exact ⟨_,rfl,HB0.out⟩
 have d1:decide (0≤P) = true:=by simpa using h1
 by_cases h2:P≤4
 rotate_left
 ·have d2:decide (P≤4) = false:=by simpa using h2
  clear h1 h2
  go_enter Try.func24,Try.ntmps24
  go_wp2_with fail
  go_ret
  exact ⟨_,rfl,HB0.out⟩
 have d2:decide (P≤4) = true:=by simpa using h2
 clear h1 h2
 go_enter Try.func24,Try.ntmps24
 go_wp2_with fail
 refine (rplain19_any t A cap W0 HV.out HOK.out HCT.out).mono ?_
 rintro e w1 ⟨x,vx,rfl,hvx,hxo,hxc,hb1⟩
 obtain ⟨Ax,cx,rfl⟩:=hvx.form
 have HB1:=hid hb1
 have HO1:=hid (HO0.out.below hb1)
 have CV:=hid (valid_any x Ax cx w1 (hvx.keep (fun _ _=>rfl) (fun k hk=>hk.2)) hxo.2.2 (by have:=HCT.out;omega))
 clear hvx hxo hxc hb1 m0 m1 m2 m3
 go_wp2_with fail
 refine CV.out.mono ?_
 rintro e w2 ⟨rfl,hb2⟩
 have HB2:=hid (HB1.out.trans (hb2.mono HB1.out.size))
 have HO2:=hid (HO1.out.below hb2)
 obtain ⟨m0,m1,m2,m3⟩:=four9 HO2.out
 clear hb2
 generalize validS x = bx at *
 cases bx
 ·go_wp2_with fail
  go_ret
  exact ⟨_,rfl,HB0.out.trans (HB2.out.mono HB0.out.size)⟩
 ·go_wp2_with fail
  refine (rgreatest_any t A cap w2 (HV.out.below HB2.out HB2.out.size) HOK.out HCT.out).mono ?_
  rintro e w3 ⟨m9,rfl,_,_,hb3⟩
  have HB3:=hid (HB2.out.trans (hb3.mono HB2.out.size))
  clear hb3
  go_wp2_with fail
  go_ret
  exact ⟨_,rfl,HB0.out.trans (HB3.out.mono HB0.out.size)⟩
end Go.Proofs.Ythpngeboknmllaa
