/- Texts put together. -/
import Derived.Test.YthpngeboknmllaaQf29f68770a
set_option linter.unusedVariables false
set_option linter.unusedSimpArgs false
set_option maxRecDepth 100000
namespace Go.Proofs.Ythpngeboknmllaa
open Go.RowKit
mutual
theorem leftS_count : (t : Tree) → (m : Int) → 0 ≤ leftS t m → leftS t m = m - countS t
  | .mk _ _ _ ts, m, h => by
    rw [leftS] at h ⊢
    rw [countS, leftsS_count ts (m - 1) h]; omega
theorem leftsS_count : (ts : List Tree) → (m : Int) → 0 ≤ leftsS ts m → leftsS ts m = m - countsS ts
  | [], m, h => by rw [leftsS, countsS]; omega
  | t :: ts, m, h => by
    rw [leftsS] at h ⊢
    split at h
    · rename_i h0
      rw [if_pos h0]
      have h1 := leftsS_count ts (leftS t m) h
      have h2 := leftS_count t m (by omega)
      rw [h1, h2, countsS]; omega
    · rename_i h0; omega
end
theorem few_count {t:Tree} {m:Int} (h:fewS t m = true):(countS t:Int)≤m:=by
 unfold fewS at h
 have h':0≤leftS t m:=by simpa using h
 have:=leftS_count t m h'
 omega
theorem fewM_ok {l:List MacD} (h:fewM l = true):(∀ m ∈ l,m.name.size≤40∧countS m.tree≤1000000)∧l.length≤70:=by
 unfold fewM at h
 rw [Bool.and_eq_true,List.all_eq_true] at h
 refine ⟨fun m hm=>?_,by simpa using h.2⟩
 have h1:=h.1 m hm
 rw [Bool.and_eq_true] at h1
 have h2:=few_count h1.2
 exact ⟨by simpa using h1.1,by omega⟩
theorem fewA_ok {l:List Tree} (h:fewA l = true):(∀ t ∈ l,countS t≤1000000)∧l.length≤8:=by
 unfold fewA at h
 rw [Bool.and_eq_true,List.all_eq_true] at h
 refine ⟨fun m hm=>?_,by simpa using h.2⟩
 have h2:=few_count (h.1 m hm)
 omega
theorem tabN_in {w:World} {tb bm b B:Nat} {vn:Value} {names:List ByteArray} {G:List UInt8→Option (Int × Tree)} (h:TabAt w tb bm b vn names G) (h1:B≤tb) (h2:B≤bm) (q:Nat) (hq:TabN tb bm vn q):B≤q∧q < w.heap.size:=by
 obtain ⟨_,k1,k2,k3,_,k4,_⟩:=h
 rcases hq with rfl | rfl | hq
 ·omega
 ·omega
 ·have:=k4.own_lt q hq.symm
  omega
theorem tabN_new {tb bm s q:Nat} {vn vn':Value} (h:vn'.ownBlock = vn.ownBlock∨∃ k,vn'.ownBlock = some k∧s≤k) (hq:q < s) (hn:TabN tb bm vn' q):TabN tb bm vn q:=by
 rcases hn with hn | hn | hn
 ·exact .inl hn
 ·exact .inr (.inl hn)
 ·rcases h with h | ⟨k,h,hk⟩
  ·exact .inr (.inr (hn.trans h))
  ·rw [h] at hn
   injection hn with hn
   omega
def BuildP (w:World) (n:Nat) (e:Ending) (w':World):Prop :=
 ∃ tb bm b vn names G A c m bb,e = .returned (.tuple #[.pointer (some ⟨tb,0,none⟩),.slice A m c,.bool bb])∧TabAt w' tb bm b vn names G∧names.length≤n∧w.heap.size≤tb∧w.heap.size≤bm∧Below w.heap.size w w'
def BldR (w:World) (l:List MacD) (tb bm BB:Nat) (v i:Value) (wr:World):Prop :=
 ∃ (k:Nat) (xs:List MacD) (A9:Option Addr) (c9:Nat) (vn:Value) (names:List ByteArray) (G:List UInt8→Option (Int × Tree)),k≤l.length∧i = .int .i64 k∧v = .slice A9 xs.length c9∧xs.length≤k∧names.length≤k∧TabAt wr tb bm BB vn names G∧SliceR macE wr (fun q=>q < wr.heap.size∧¬ TabN tb bm vn q) xs v∧Below w.heap.size w wr
set_option maxHeartbeats 8000000 in
theorem build19_any (l:List MacD) (A:Option Addr) (cap:Nat) (w:World) (hv:SliceR macE w (Lt w.heap.size) l (.slice A l.length cap)) (hf:fewM l = true) :
  Calls Try.prog 7 #[.slice A l.length cap] w (BuildP w l.length):=by
 have HV:=hid hv
 obtain ⟨hall,hln⟩:=fewM_ok hf
 have HAL:=hid hall
 have CT:=hid (tnew_any w)
 clear hv hf hall
 go_enter Try.func7,Try.ntmps7
 go_wp2_with fail
 refine CT.out.mono ?_
 rintro e w1 ⟨tb,bm,rfl,ht,h1,h2,hb⟩
 obtain ⟨BB,hBB⟩:∃ BB,w1.heap.size = BB:=⟨_,rfl⟩
 rw [hBB] at ht
 have HT1:=hid ht
 have HGE:=hid (And.intro h1 h2)
 have HB1:=hid hb
 clear ht h1 h2 hb CT hBB
 go_wp2_with fail
 go_loopw [6,14] (fun v i wr=>BldR w l tb bm BB v i wr) (fun _ i _=>l.length - (intOf i).toNat)
 case atStart=>exact ⟨0,[],none,0,_,_,_,Nat.zero_le _,rfl,rfl,Nat.le_refl _,Nat.le_refl _,HT1.out,SliceR.nil_ 0 (Nat.zero_le _) none,HB1.out⟩
 case round =>
 obtain ⟨k,xs,A9,c9,vn,names,G,hk,rfl,rfl,hxs,hnm,ht,hr,hbr⟩:=hrel
 have HT:=hid ht
 have HR:=hid hr
 have HBR:=hid hbr
 clear ht hr hbr HT1 HB1
 by_cases hlt:k < l.length
 ·have i0:(k:Int) < (l.length:Int):=by omega
  have i00:(0:Int)≤(k:Int):=by omega
  obtain ⟨_,_,rs,hq,_,_,hrd,hls⟩:=HV.out.keep (S':=Lt w.heap.size) (fun p hp=>HBR.out.cell hp) (fun _ h=>h)
  cases hq
  obtain ⟨g2,o2,A2,c2,rfl,hg2,e0,e1,e2,e3,e4,e5,hn,hp,hok,hkv⟩:=mac_at hrd hls hlt
  have HKV:=hid hkv
  have HAK:=hid (HAL.out l[k] (List.getElem_mem hlt))
  have HPK:=hid (And.intro hp hok)
  have HSN:=hid hn
  clear hrd hls hkv hp hok hn
  generalize l[k] = x at *
  go_upto_region 7 with (first
   | (refine sR 33 8 17 (HasObj.at0 _ _) ?_)
   | fail)
  generalize hX:World.setRow _ _ _ = X
  have hbx:=putB hX
  have hox:=put0 hX
  have HBX:=hid (HBR.out.trans (hbx.mono HBR.out.size))
  have HOX:=hid hox
  have HTX:=hid (HT.out.below hbx)
  have HNW:Hid (¬ TabN tb bm vn wr.heap.size):=fun e=>Nat.lt_irrefl _ (tabN_in HT.out HGE.out.1 HGE.out.2 _ e).2
  have CADD:=hid (add_any tb bm BB vn names G x.name HSN.out x.params HPK.out.1 x.tree A2 c2 X HTX.out (by omega) (HKV.out.keep (fun p hp=>hbx.cell (Nat.lt_of_lt_of_le hp HBR.out.size)) (fun q hq=>⟨Nat.lt_of_lt_of_le hq HBX.out.size,fun e=>Nat.not_lt_of_le (tabN_in HT.out HGE.out.1 HGE.out.2 q e).1 hq⟩)) HPK.out.2 HAK.out.2)
  have HRX:=hid (HR.out.keep (S':=fun q=>q < X.heap.size∧¬ TabN tb bm vn q) (fun p hp=>hbx.cell hp.1) (fun q hq=>⟨Nat.lt_of_lt_of_le hq.1 hbx.size,hq.2⟩))
  have k0:=hox.cell 0
  have k1:=hox.cell 1
  have k2:=hox.cell 2
  have k3:=hox.cell 3
  have k4:=hox.cell 4
  have k5:=hox.cell 5
  simp only [List.getElem?_toArray,List.getElem?_cons_zero,List.getElem?_cons_succ] at k0 k1 k2 k3 k4 k5
  clear hX hbx hox e0 e1 e2 e3 e4 e5 HR HT
  go_wp2_with fail
  refine CADD.out.mono ?_
  rintro e w3 ⟨er,vn',names',G',rfl,ht3,hk3,hvn,hG,hn3⟩
  have HT3:=hid ht3
  have HB3:=hid (HBX.out.trans (hk3.below HBX.out.size (fun q e=>(tabN_in HTX.out HGE.out.1 HGE.out.2 q e).1)))
  have HR3:=hid (hk3.reads (S':=fun q=>q < w3.heap.size∧¬ TabN tb bm vn' q) HRX.out (fun q hq=>hq) (fun q hq=>⟨Nat.lt_of_lt_of_le hq.1 hk3.size,fun e=>hq.2 (tabN_new hvn hq.1 e)⟩))
  have HWC:Hid (∀ p:Addr,p.block < w.heap.size→w3.cell? p = wr.cell? p):=fun p hp=>(HB3.out.cell hp).trans (HBR.out.cell hp).symm
  have HM3:=hid (hk3.obj HOX.out HNW.out)
  have CRA:=hid (radd19_any xs x A9 A2 c9 c2 w3 (fun q=>q < w3.heap.size∧¬ TabN tb bm vn' q) (fun q h=>h.1) HR3.out (by omega) (HKV.out.keep (fun p hp=>HWC.out p hp) (fun q hq=>⟨Nat.lt_of_lt_of_le hq HB3.out.size,fun e=>Nat.not_lt_of_le (tabN_in HT3.out HGE.out.1 HGE.out.2 q e).1 hq⟩)) HSN.out HPK.out.1 HPK.out.2 HAK.out.2)
  clear hk3 ht3 hvn hG k0 k1 k2 k3 k4 k5 CADD HOX HRX HTX HR3
  have k0:=HM3.out.cell 0
  have k1:=HM3.out.cell 1
  have k2:=HM3.out.cell 2
  have k3:=HM3.out.cell 3
  have k4:=HM3.out.cell 4
  have k5:=HM3.out.cell 5
  simp only [List.getElem?_toArray,List.getElem?_cons_zero,List.getElem?_cons_succ] at k0 k1 k2 k3 k4 k5
  go_wp2_with fail
  refine CRA.out.mono ?_
  rintro e w4 ⟨xs4,v4,er4,rfl,hr4,hl4,hb4⟩
  obtain ⟨A4,c4,rfl⟩:=hr4.form
  have HR4:=hid hr4
  have HB4:=hid hb4
  have HTW:=hid (HT3.out.below hb4)
  clear hr4 hb4 k0 k1 k2 k3 k4 k5 CRA
  by_cases he:er = er4
  ·have d1:(er == er4) = true:=by simpa using he
   have d2:(er != er4) = false:=by simpa using he
   clear he
   go_wp2_with fail
   go_roundw
   case rel=>exact ⟨k + 1,xs4,A4,c4,vn',names',G',by omega,by go_num,rfl,by omega,by omega,HTW.out,HR4.out.keep (fun _ _=>rfl) (fun q hq=>hq.elim (fun h=>⟨Nat.lt_of_lt_of_le h.1 HB4.out.size,h.2⟩) (fun h=>⟨h.2,fun e=>Nat.not_lt_of_le h.1 (tabN_in HT3.out HGE.out.1 HGE.out.2 q e).2⟩)),HB3.out.trans (HB4.out.mono HB3.out.size)⟩
   case measure=>simp [intOf];omega
  ·have d1:(er == er4) = false:=by simpa using he
   have d2:(er != er4) = true:=by simpa using he
   clear he
   go_wp2_with fail
   refine bodyPost_ret (v:=.tuple #[.pointer (some ⟨tb,0,none⟩),.slice A4 xs4.length c4,.bool false]) (by simp [results,Try.results7,go_sem]) rfl ?_
   exact ⟨tb,bm,BB,vn',names',G',_,_,_,_,rfl,HTW.out,by omega,HGE.out.1,HGE.out.2,HB3.out.trans (HB4.out.mono HB3.out.size)⟩
 ·have i0:¬ (k:Int) < (l.length:Int):=by omega
  go_wp2_with fail
  refine bodyPost_ret (v:=.tuple #[.pointer (some ⟨tb,0,none⟩),.slice A9 xs.length c9,.bool true]) (by simp [results,Try.results7,go_sem]) rfl ?_
  exact ⟨tb,bm,BB,vn,names,G,_,_,_,_,rfl,HT.out,by omega,HGE.out.1,HGE.out.2,HBR.out⟩
end Go.Proofs.Ythpngeboknmllaa
