/- Texts put together. -/
import Derived.Test.YthpngeboknmllaaQa301acd65c
import Derived.Test.YthpngeboknmllaaQcb8780961b
set_option linter.unusedVariables false
set_option linter.unusedSimpArgs false
set_option maxRecDepth 100000
namespace Go.Proofs.Ythpngeboknmllaa
open Go.RowKit
theorem ne_key {x s:ByteArray} (h:(x.toList == s.toList) = false):s.data.toList≠x.data.toList:=by
 intro e
 have e2:x = s:=by
  obtain ⟨⟨a⟩⟩:=x
  obtain ⟨⟨b⟩⟩:=s
  simp only at e
  rw [e]
 rw [e2] at h
 simp at h
def LatR (w X:World) (n tb bm b:Nat) (vn:Value) (key:List UInt8) (g:Option (Int × Tree)) (i:Value) (wr:World):Prop :=
 ∃ (k:Nat) (vn':Value) (names':List ByteArray) (G':List UInt8→Option (Int × Tree)),k≤n∧i = .int .i64 k∧TabAt wr tb bm b vn' names' G'∧G' key = g∧names'.length≤70 + k∧Kept (TabN tb bm vn) X wr∧(vn'.ownBlock = vn.ownBlock∨∃ q,vn'.ownBlock = some q∧X.heap.size≤q)
set_option maxHeartbeats 16000000 in
theorem macroLater_any (l later:List MacD) (args:List Tree) (A1 A2 A3:Option Addr) (c1 c2 c3:Nat) (w:World) (h1:SliceR macE w (Lt w.heap.size) l (.slice A1 l.length c1)) (h2:SliceR macE w (Lt w.heap.size) later (.slice A2 later.length c2)) (h3:SliceR treeE w (Lt w.heap.size) args (.slice A3 args.length c3)) :
  Calls Try.prog 3 #[.slice A1 l.length c1,.slice A2 later.length c2,.slice A3 args.length c3] w (BoolP w true):=by
 have HV1:=hid h1
 have HV2:=hid h2
 have HV3:=hid h3
 have HB:=hid (Below.refl w.heap.size w)
 have hl1:l.length≤9223372036854775807:=by
  obtain ⟨_,_,_,hq,h1,h2,_,_⟩:=h1
  cases hq
  unfold maxLen at h2;omega
 have hl2:later.length≤9223372036854775807:=by
  obtain ⟨_,_,_,hq,h1,h2,_,_⟩:=h2
  cases hq
  unfold maxLen at h2;omega
 clear h1 h2 h3
 obtain ⟨b1,hb1⟩:∃ b,fewM l = b:=⟨_,rfl⟩
 obtain ⟨b2,hb2⟩:∃ b,fewM later = b:=⟨_,rfl⟩
 obtain ⟨b3,hb3⟩:∃ b,fewA args = b:=⟨_,rfl⟩
 have C1:Hid (∀ W,Below w.heap.size w W→Calls Try.prog 5 #[.slice A1 l.length c1] W (BoolP W b1)):=fun W hW=>hb1 ▸ lfew19_any l A1 c1 W (HV1.out.below hW hW.size)
 have C2:Hid (∀ W,Below w.heap.size w W→Calls Try.prog 5 #[.slice A2 later.length c2] W (BoolP W b2)):=fun W hW=>hb2 ▸ lfew19_any later A2 c2 W (HV2.out.below hW hW.size)
 have C3:Hid (∀ W,Below w.heap.size w W→Calls Try.prog 6 #[.slice A3 args.length c3] W (BoolP W b3)):=fun W hW=>hb3 ▸ rfew19_any args A3 c3 W (HV3.out.below hW hW.size)
 cases b1
 ·clear hb1 hb2 hb3
  go_enter Try.func3,Try.ntmps3
  go_wp2_with (first
     | (go_at_call 4;refine Calls.mono (awake19_any _) ?_;rintro e w3 ⟨rfl,hb3⟩;have HB:=hid (HB.out.trans (hb3.mono HB.out.size));clear hb3)
     | (go_at_call 5;(first | with_reducible refine Calls.mono (C1.out _ HB.out) ?_ | refine Calls.mono (C2.out _ HB.out) ?_);rintro e w3 ⟨rfl,hb3⟩;have HB:=hid (HB.out.trans (hb3.mono HB.out.size));clear hb3)
     | (go_at_call 6;refine Calls.mono (C3.out _ HB.out) ?_;rintro e w3 ⟨rfl,hb3⟩;have HB:=hid (HB.out.trans (hb3.mono HB.out.size));clear hb3)
     | fail)
  go_ret
  exact ⟨rfl,HB.out⟩
 cases b2
 ·clear hb1 hb2 hb3
  go_enter Try.func3,Try.ntmps3
  go_wp2_with (first
     | (go_at_call 4;refine Calls.mono (awake19_any _) ?_;rintro e w3 ⟨rfl,hb3⟩;have HB:=hid (HB.out.trans (hb3.mono HB.out.size));clear hb3)
     | (go_at_call 5;(first | with_reducible refine Calls.mono (C1.out _ HB.out) ?_ | refine Calls.mono (C2.out _ HB.out) ?_);rintro e w3 ⟨rfl,hb3⟩;have HB:=hid (HB.out.trans (hb3.mono HB.out.size));clear hb3)
     | (go_at_call 6;refine Calls.mono (C3.out _ HB.out) ?_;rintro e w3 ⟨rfl,hb3⟩;have HB:=hid (HB.out.trans (hb3.mono HB.out.size));clear hb3)
     | fail)
  go_ret
  exact ⟨rfl,HB.out⟩
 cases b3
 ·clear hb1 hb2 hb3
  go_enter Try.func3,Try.ntmps3
  go_wp2_with (first
     | (go_at_call 4;refine Calls.mono (awake19_any _) ?_;rintro e w3 ⟨rfl,hb3⟩;have HB:=hid (HB.out.trans (hb3.mono HB.out.size));clear hb3)
     | (go_at_call 5;(first | with_reducible refine Calls.mono (C1.out _ HB.out) ?_ | refine Calls.mono (C2.out _ HB.out) ?_);rintro e w3 ⟨rfl,hb3⟩;have HB:=hid (HB.out.trans (hb3.mono HB.out.size));clear hb3)
     | (go_at_call 6;refine Calls.mono (C3.out _ HB.out) ?_;rintro e w3 ⟨rfl,hb3⟩;have HB:=hid (HB.out.trans (hb3.mono HB.out.size));clear hb3)
     | fail)
  go_ret
  exact ⟨rfl,HB.out⟩
 by_cases hl0:l.length = 0
 ·have d0:((l.length:Int) == 0) = true:=by simp [hl0]
  clear hb1 hb2 hb3 hl0
  go_enter Try.func3,Try.ntmps3
  go_wp2_with (first
     | (go_at_call 4;refine Calls.mono (awake19_any _) ?_;rintro e w3 ⟨rfl,hb3⟩;have HB:=hid (HB.out.trans (hb3.mono HB.out.size));clear hb3)
     | (go_at_call 5;(first | with_reducible refine Calls.mono (C1.out _ HB.out) ?_ | refine Calls.mono (C2.out _ HB.out) ?_);rintro e w3 ⟨rfl,hb3⟩;have HB:=hid (HB.out.trans (hb3.mono HB.out.size));clear hb3)
     | (go_at_call 6;refine Calls.mono (C3.out _ HB.out) ?_;rintro e w3 ⟨rfl,hb3⟩;have HB:=hid (HB.out.trans (hb3.mono HB.out.size));clear hb3)
     | fail)
  go_ret
  exact ⟨rfl,HB.out⟩
 have d0:((l.length:Int) == 0) = false:=by simp;intro e;exact hl0 (by rw [e];rfl)
 obtain ⟨n,hn⟩:∃ n,n + 1 = l.length:=⟨l.length - 1,by omega⟩
 have HN:=hid hn
 have HF1:=hid hb1
 have HF2:=hid (fewM_ok hb2)
 have HF3:=hid (fewA_ok hb3)
 clear hb1 hb2 hb3 hn hl0
 go_enter Try.func3,Try.ntmps3
 go_wp2_with (first
    | (go_at_call 4;refine Calls.mono (awake19_any _) ?_;rintro e w3 ⟨rfl,hb3⟩;have HB:=hid (HB.out.trans (hb3.mono HB.out.size));clear hb3)
    | (go_at_call 5;(first | with_reducible refine Calls.mono (C1.out _ HB.out) ?_ | refine Calls.mono (C2.out _ HB.out) ?_);rintro e w3 ⟨rfl,hb3⟩;have HB:=hid (HB.out.trans (hb3.mono HB.out.size));clear hb3)
    | (go_at_call 6;refine Calls.mono (C3.out _ HB.out) ?_;rintro e w3 ⟨rfl,hb3⟩;have HB:=hid (HB.out.trans (hb3.mono HB.out.size));clear hb3)
    | fail)
 refine (build19_any l A1 c1 _ (HV1.out.below HB.out HB.out.size) HF1.out).mono ?_
 rintro e V ⟨tb,bm,b,vn,names,G,A9,c9,m9,bb,rfl,ht,hnl,hg1,hg2,hb4⟩
 have HNL:Hid (names.length≤70):=Nat.le_trans hnl (fewM_ok HF1.out).2
 have HGE:=hid (And.intro (Nat.le_trans HB.out.size hg1) (Nat.le_trans HB.out.size hg2))
 have HB:=hid (HB.out.trans (hb4.mono HB.out.size))
 have HT:=hid ht
 clear ht hnl hg1 hg2 hb4 C1 C2 C3 HF1
 have hnlt:n < l.length:=by have:=HN.out;omega
 have vw:IntKind.i64.wrap ((l.length:Int) - 1) = (n:Int):=by rw [IntWalk.i64_in _ (by have:=HN.out;omega)];have:=HN.out;omega
 have i0:(n:Int) < (l.length:Int):=by omega
 have i00:(0:Int)≤(n:Int):=by omega
 obtain ⟨_,_,rs,hq,_,_,hrd,hls⟩:=HV1.out.below HB.out HB.out.size
 cases hq
 obtain ⟨g2,o2,A2x,c2x,rfl,hg2,e0,_,_,_,_,_,hsn,_,_,_⟩:=mac_at hrd hls hnlt
 have HSN:=hid hsn
 clear hrd hls hsn HV1
 generalize l[n].name = s at *
 have CE:=hid (expand_any tb bm b vn names G s HSN.out args A3 c3 V HT.out (HV3.out.below HB.out HB.out.size) HF3.out.1 (Nat.le_trans HF3.out.2 (by omega)))
 obtain ⟨RES,hRES⟩:∃ R,expF (G s.data.toList) args = R:=⟨_,rfl⟩
 rw [hRES] at CE
 have HRES:=hid hRES
 clear hRES
 go_wp2_with fail
 refine CE.out.mono ?_
 rintro e w5 ⟨v5,rfl,hr5,hb5,_,_⟩
 obtain ⟨A5,c5,rfl⟩:=hr5.form
 have HR5:=hid hr5
 have HT5:=hid (HT.out.below hb5)
 have HNV:Hid (∀ q,V.heap.size≤q→¬ TabN tb bm vn q):=fun q hq e=>Nat.not_lt_of_le hq (tabN_in HT.out HGE.out.1 HGE.out.2 q e).2
 have HV5:=hid hb5.size
 have HB:=hid (HB.out.trans (hb5.mono HB.out.size))
 clear hr5 hb5 CE e0 vw HT
 go_upto_region 6 with (first
  | (refine sR 31 11 58 (HasObj.at0 _ _) ?_)
  | fail)
 generalize hX:World.setRow _ _ _ = X
 have hbx:=putB hX
 have HO11:=hid (put0 hX)
 have HB:=hid (HB.out.trans (hbx.mono HB.out.size))
 have HTX:=hid (HT5.out.below hbx)
 have HRX:=hid (HR5.out.keep (S':=fun q=>V.heap.size≤q∧q < X.heap.size) (fun p hp=>hbx.cell hp.2) (fun q hq=>⟨hq.1,Nat.lt_of_lt_of_le hq.2 hbx.size⟩))
 have HV5:=hid (And.intro HV5.out hbx.size)
 clear hX hbx HT5 HR5
 go_wp2_with fail
 go_loopw [62] (fun i wr=>LatR w X later.length tb bm b vn s.data.toList (G s.data.toList) i wr) (fun i _=>later.length - (intOf i).toNat)
 case atStart=>exact ⟨0,vn,names,G,Nat.zero_le _,rfl,HTX.out,rfl,HNL.out,Kept.of_below (Below.refl _ _) _,.inl rfl⟩
 case round =>
 obtain ⟨k,vn',names',G',hk,rfl,ht,hG,hnm,hkp,hvn⟩:=hrel
 have HT:=hid ht
 have HGK:=hid hG
 have HKP:=hid hkp
 have HVN:=hid hvn
 have HBW:=hid (HB.out.trans (hkp.below (B:=w.heap.size) HB.out.size (fun q e=>(tabN_in HTX.out HGE.out.1 HGE.out.2 q e).1)))
 clear ht hG hkp hvn
 by_cases hlt:k < later.length
 ·have i0:(k:Int) < (later.length:Int):=by omega
  have i00:(0:Int)≤(k:Int):=by omega
  obtain ⟨_,_,rs,hq,_,_,hrd,hls⟩:=HV2.out.keep (S':=Lt w.heap.size) (fun p hp=>HBW.out.cell hp) (fun _ h=>h)
  cases hq
  obtain ⟨g3,o3,A3x,c3x,rfl,hg3,e0,e1,e2,e3,e4,e5,hn4,hp,hok,hkv⟩:=mac_at hrd hls hlt
  have HKV:=hid hkv
  have HAK:=hid (HF2.out.1 later[k] (List.getElem_mem hlt))
  have HPK:=hid (And.intro hp hok)
  have HS4:=hid hn4
  clear hrd hls hkv hp hok hn4
  generalize later[k] = x at *
  go_upto_region 9 with (first
   | (refine sR 33 14 65 (HasObj.at0 _ _) ?_)
   | fail)
  generalize hY:World.setRow _ _ _ = Y
  have hby:=putB hY
  have hoy:=put0 hY
  have HKY:=hid (HKP.out.trans' (Kept.of_below hby _))
  have HTY:=hid (HT.out.below hby)
  have HVY:=hid hby.size
  have CADD:=hid (add_any tb bm b vn' names' G' x.name HS4.out x.params HPK.out.1 x.tree A3x c3x Y HTY.out (by have:=HF2.out.2;omega) (HKV.out.keep (fun p hp=>hby.cell (Nat.lt_of_lt_of_le hp HBW.out.size)) (fun q hq=>⟨Nat.lt_of_lt_of_le hq (Nat.le_trans HBW.out.size hby.size),fun e=>Nat.not_lt_of_le (tabN_in HT.out HGE.out.1 HGE.out.2 q e).1 hq⟩)) HPK.out.2 HAK.out.2)
  have k0:=hoy.cell 0
  have k1:=hoy.cell 1
  have k2:=hoy.cell 2
  have k3:=hoy.cell 3
  have k4:=hoy.cell 4
  have k5:=hoy.cell 5
  simp only [List.getElem?_toArray,List.getElem?_cons_zero,List.getElem?_cons_succ] at k0 k1 k2 k3 k4 k5
  clear hY hby hoy e0 e1 e2 e3 e4 e5
  cases hne:(x.name.toList == s.toList)
  ·have d1:(x.name.toList != s.toList) = true:=by rw [bne,hne];rfl
   have HNE:=hid (ne_key hne)
   go_wp2_with fail
   refine CADD.out.mono ?_
   rintro e w7 ⟨er,vn7,names7,G7,rfl,ht7,hk7,hv7,hG7,hn7⟩
   have HT7:=hid ht7
   have HK7:=hid (HKY.out.next hk7 (fun q hq hn=>tabN_new HVN.out hq hn))
   have HV7:Hid (vn7.ownBlock = vn.ownBlock∨∃ q,vn7.ownBlock = some q∧X.heap.size≤q):=by
    show _∨_
    rcases hv7 with h | ⟨q,h,hq⟩
    ·rw [h];exact HVN.out
    ·exact .inr ⟨q,h,Nat.le_trans HKY.out.size hq⟩
   have HG7:Hid (G7 s.data.toList = G s.data.toList):=by
    show _ = _
    rcases hG7 with h | ⟨_,h⟩
    ·rw [h];exact HGK.out
    ·rw [h];simp only [if_neg HNE.out];exact HGK.out
   have HN7:=hid hn7
   clear ht7 hk7 hv7 hG7 hn7 k0 k1 k2 k3 k4 k5
   go_wp2_with fail
   go_roundw
   case rel=>exact ⟨k + 1,vn7,names7,G7,by omega,by go_num,HT7.out,HG7.out,by have:=HN7.out;omega,HK7.out,HV7.out⟩
   case measure=>simp [intOf];omega
  ·have d1:(x.name.toList != s.toList) = false:=by rw [bne,hne];rfl
   go_wp2_with fail
   go_roundw
   case rel=>exact ⟨k + 1,vn',names',G',by omega,by go_num,HTY.out,HGK.out,by omega,HKY.out,HVN.out⟩
   case measure=>simp [intOf];omega
 ·have i0:¬ (k:Int) < (later.length:Int):=by omega
  have CE:=hid (expand_any tb bm b vn' names' G' s HSN.out args A3 c3 wr HT.out (HV3.out.below HBW.out HBW.out.size) HF3.out.1 (Nat.le_trans HF3.out.2 (by omega)))
  rw [HGK.out,HRES.out] at CE
  have HRR:=hid (HKP.out.reads (S':=Lt wr.heap.size) HRX.out (fun q hq=>⟨hq.2,HNV.out q hq.1⟩) (fun q hq=>Nat.lt_of_lt_of_le hq.2 HKP.out.size))
  have HOR:=hid (HKP.out.obj HO11.out (HNV.out _ HV5.out.1))
  go_wp2_with fail
  refine CE.out.mono ?_
  rintro e w8 ⟨v8,rfl,hr8,hb8,_,_⟩
  obtain ⟨A8,c8,rfl⟩:=hr8.form
  have HR8:=hid (hr8.keep (S':=Lt w8.heap.size) (fun _ _=>rfl) (fun q hq=>hq.2))
  have HRR:=hid (HRR.out.below hb8 hb8.size)
  have HOR:=hid (HOR.out.below hb8)
  have HB:=hid (HBW.out.trans (hb8.mono HBW.out.size))
  clear hr8 hb8 CE
  go_upto_region 13 with (first
   | (refine sR 31 15 84 (HasObj.at0 _ _) ?_)
   | fail)
  generalize hZ:World.setRow _ _ _ = Z
  have hbz:=putB hZ
  have hoz:=put0 hZ
  have HR8:=hid (HR8.out.below hbz hbz.size)
  have HRR:=hid (HRR.out.below hbz hbz.size)
  have hor:=HOR.out.below hbz
  have HB:=hid (HB.out.trans (hbz.mono HB.out.size))
  have k0:=hoz.cell 0
  have k1:=hoz.cell 1
  have k2:=hoz.cell 2
  have k3:=hoz.cell 3
  have j0:=hor.cell 0
  have j1:=hor.cell 1
  have j2:=hor.cell 2
  have j3:=hor.cell 3
  simp only [List.getElem?_toArray,List.getElem?_cons_zero,List.getElem?_cons_succ] at k0 k1 k2 k3 j0 j1 j2 j3
  have CQ:=hid (equal_any RES.1 RES.1 Z _ _ HRR.out HR8.out)
  rw [show eqS RES.1 RES.1 = true from (eqS_iff _ _).2 rfl] at CQ
  clear hZ hbz hoz hor
  go_wp2_with (first
   | (go_at_call 10;refine Calls.mono CQ.out ?_;rintro e w9 ⟨rfl,hb9⟩;have HB:=hid (HB.out.trans (hb9.mono HB.out.size));clear hb9)
   | fail)
  go_ret
  exact ⟨rfl,HB.out⟩
end Go.Proofs.Ythpngeboknmllaa
