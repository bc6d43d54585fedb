/- Texts put together. -/
import Derived.Test.YtbjcioknfjofkaaGreatQ15642f0ed8
import Derived.Test.YtbjcioknfjofkaaGreatQ0a2d1212ff
import Derived.Deep.RegionHeld3
import Derived.IntWalk
set_option linter.unusedVariables false
set_option linter.unusedSimpArgs false
set_option maxRecDepth 100000
namespace Go.Proofs.YtbjcioknfjofkaaGreat
open Go.RowKit
def zIy (w:World) (xss:List (List Int)) (e:Ending) (w':World):Prop:=∃ v,e = .returned v∧zBq w' w.heap.size xss v∧Below w.heap.size w w'
theorem zH6 (path:List Int) {ts:List Tree} {j:Nat} (h:j < ts.length):zBu path j (ts.drop j) = (path ++ [(j:Int)]) :: (zCi path j 0 ts[j].kids ++ zBu path (j + 1) (ts.drop (j + 1))):=by
 rw [List.drop_eq_getElem_cons h,zFr]
theorem zHq (path:List Int) (j:Nat) {us:List Tree} {k:Nat} (h:k < us.length):zCi path j k (us.drop k) = allS (path ++ [(j:Int),(k:Int)]) us[k] ++ zCi path j (k + 1) (us.drop (k + 1)):=by
 rw [List.drop_eq_getElem_cons h,zCi]
theorem zKl {w : World} {S : Nat → Prop} {ts : List Tree} {A : Option Addr} {n cap : Nat} (h : zAa zAb w S ts (.slice A n cap)) {k : Nat} (hk : k < ts.length) :
    ∃ g o A' cap', A = some ⟨g, o, none⟩ ∧ S g ∧ (w.cell? ⟨g, o + k * 4, none⟩ = some (.int .i64 ts[k].kind) ∧ w.cell? ⟨g, o + k * 4 + 1, none⟩ = some (.string ts[k].text) ∧
      w.cell? ⟨g, o + k * 4 + 2, none⟩ = some (.int .i64 ts[k].cols) ∧ w.cell? ⟨g, o + k * 4 + 3, none⟩ = some (.slice A' ts[k].kids.length cap')) ∧ ts[k].text.size ≤ maxLen ∧ ts[k].kids.length ≤ maxLen ∧ zAa zAb w S ts[k].kids (.slice A' ts[k].kids.length cap') := by
  obtain ⟨_, _, rs, hq, _, _, h7, h8⟩ := h
  cases hq
  obtain ⟨g, o, A', cap', rs', hA, hg, e0, e1, e2, e3, _, _, htx, hc5, hc6, hrd, hls⟩ := zAy h7 h8 hk
  exact ⟨g, o, A', cap', hA, hg, ⟨e0, e1, e2, e3⟩, htx, by omega, A', cap', rs', rfl, hc5, hc6, hrd, hls⟩
set_option maxHeartbeats 4000000 in
theorem allR_any (t:Tree):∀ (path:List Int) (A Ap:Option Addr) (cap cp:Nat) (w:World) (_:zAa zAb w (Lt w.heap.size) t.kids (.slice A t.kids.length cap)) (_:zAh w (Lt w.heap.size) path (.slice Ap path.length cp)) (_:path.length + zAe t≤1000000),
  Calls Tryz.prog 36 #[.agg #[.int .i64 t.kind,.string t.text,.int .i64 t.cols,.slice A t.kids.length cap],.slice Ap path.length cp] w (zIy w (allS path t)):=by
 induction t using Tree.ind' with
 | h t ih =>
 intro path A Ap cap cp w hv hp hcnt
 have htot:(zBu path 0 t.kids).length≤2000000:=by
  rw [← zKs,zHl];have:=zKp t;omega
 have HE:Hid (allS path t = zBu path 0 t.kids):=zKs path t
 have hkc:=zAn t
 have HIH:Hid (∀ (j k:Nat) (hj:j < t.kids.length) (hk:k < t.kids[j].kids.length) (A1 A2:Option Addr) (c1 c2:Nat) (W:World),zAa zAb W (Lt W.heap.size) t.kids[j].kids[k].kids (.slice A1 t.kids[j].kids[k].kids.length c1)→zAh W (Lt W.heap.size) (path ++ [(j:Int),(k:Int)]) (.slice A2 (path.length + 2) c2) →
   Calls Tryz.prog 36 #[.agg #[.int .i64 t.kids[j].kids[k].kind,.string t.kids[j].kids[k].text,.int .i64 t.kids[j].kids[k].cols,.slice A1 t.kids[j].kids[k].kids.length c1],.slice A2 (path.length + 2) c2] W (zIy W (allS (path ++ [(j:Int),(k:Int)]) t.kids[j].kids[k]))):=by
  intro j k hj hk A1 A2 c1 c2 W h1 h2
  have hl:(path ++ [(j:Int),(k:Int)]).length = path.length + 2:=by simp
  have hc1:=zDv hj
  have hc2:=zDv hk
  rw [← hl] at h2 ⊢
  exact ih _ (List.getElem_mem hj) _ (List.getElem_mem hk) _ _ _ _ _ _ h1 h2 (by rw [hl];omega)
 rw [HE.out]
 have hpl:path.length≤1000000:=by omega
 have htl:t.kids.length≤1000000:=by omega
 clear ih HE hcnt hkc
 obtain ⟨tk,tx,tc,ts⟩:=t
 have HIH:Hid (∀ (j k:Nat) (hj:j < ts.length) (hk:k < ts[j].kids.length) (A1 A2:Option Addr) (c1 c2:Nat) (W:World),zAa zAb W (Lt W.heap.size) ts[j].kids[k].kids (.slice A1 ts[j].kids[k].kids.length c1)→zAh W (Lt W.heap.size) (path ++ [(j:Int),(k:Int)]) (.slice A2 (path.length + 2) c2) →
   Calls Tryz.prog 36 #[.agg #[.int .i64 ts[j].kids[k].kind,.string ts[j].kids[k].text,.int .i64 ts[j].kids[k].cols,.slice A1 ts[j].kids[k].kids.length c1],.slice A2 (path.length + 2) c2] W (zIy W (allS (path ++ [(j:Int),(k:Int)]) ts[j].kids[k]))):=HIH
 have htot:(zBu path 0 ts).length≤2000000:=htot
 have htl:ts.length≤1000000:=htl
 have hv:zAa zAb w (Lt w.heap.size) ts (.slice A ts.length cap):=hv
 show Calls Tryz.prog 36 #[.agg #[.int .i64 tk,.string tx,.int .i64 tc,.slice A ts.length cap],.slice Ap path.length cp] w (zIy w (zBu path 0 ts))
 have hb0:Below w.heap.size w (w.alloc (Obj.cells #[.int .i64 tk,.string tx,.int .i64 tc,.slice A ts.length cap] 24)):=zAl _ _
 have HB0:=hid hb0
 have HV:Hid (∀ W,Below w.heap.size w W→zAa zAb W (Lt W.heap.size) ts (.slice A ts.length cap)):=fun W h=>hv.below h h.size
 have HP:Hid (∀ W,Below w.heap.size w W→zAh W (Lt W.heap.size) path (.slice Ap path.length cp)):=fun W h=>hp.below h h.size
 have KEEP0:Hid (∀ W,Below (w.heap.size + 1) (w.alloc (Obj.cells #[.int .i64 tk,.string tx,.int .i64 tc,.slice A ts.length cap] 24)) W→W.cell? ⟨w.heap.size,3,none⟩ = some (.slice A ts.length cap)∧w.heap.size + 1≤W.heap.size∧Below w.heap.size w W) :=
  fun W hW=>⟨((bcell hW).1 _ _ (by omega)).trans (by rw [World.cell?_alloc_new];rfl),by have:=hW.size;simpa using this,hb0.trans (hW.mono (Nat.le_succ _))⟩
 clear hv hp hb0
 generalize hTOT:zBu path 0 ts = TOT at *
 have HTOT:=hid hTOT
 clear hTOT
 go_enter Tryz.func36,Tryz.ntmps36
 go_wp2_with fail
 generalize hW0:w.alloc (Obj.cells #[.int .i64 tk,.string tx,.int .i64 tc,.slice A ts.length cap] 24) = W0 at *
 have hz0:W0.heap.size = w.heap.size + 1:=by rw [← hW0];simp
 have HZ0:=hid hz0
 clear hW0 hz0
 go_loopw [5,6] (fun v i wr=>Below (w.heap.size + 1) W0 wr∧∃ (j:Nat) (acc:List (List Int)),j≤ts.length∧i = .int .i64 j∧zBq wr (w.heap.size + 1) acc v∧acc ++ zBu path j (ts.drop j) = TOT) (fun _ i _=>ts.length + 1 - (intOf i).toNat)
 case atStart=>exact ⟨Below.refl _ _,0,[],Nat.zero_le _,rfl,zBq.nil _ _,HTOT.out⟩
 case round =>
  obtain ⟨hbr,j,acc,hj,rfl,hown,hrest⟩:=hrel
  have HT:=hid hrest
  have HBR:=hid hbr
  have HO:=hid hown
  have hacc:acc.length≤2000000:=by have:=congrArg List.length hrest;rw [List.length_append] at this;omega
  obtain ⟨c3,hz,hbw⟩:=KEEP0.out wr hbr
  have HBW:=hid hbw
  have i0:(j:Int)≤(ts.length:Int):=by omega
  have HA0:Hid (Below w.heap.size w (wr.alloc (.cells #[] 3))):=by show Below _ _ _;exact hbw.trans ((zAl _ _).mono hbw.size)
  clear hrest hbr hown hbw
  have hacc3:(acc ++ [path ++ [(j:Int)]]).length≤2000001:=by simp;omega
  rcases Nat.lt_or_ge j ts.length with hlt | hge
  ·have d1:((j:Int) == (ts.length:Int)) = false:=by simp;omega
   have HIT:=hid (zH6 path hlt)
   go_wp2_with (first
    | (at_builtin;refine zEg rfl (.tmp 16) (.tmp 17) rfl wr.heap.size _ [] path rfl (zCk wr) _ _ _ _ rfl (HP.out _ HA0.out) (by simp;omega) (by simp) ?_;intro v1 w1 hown1 hb1 _;have HO1:=hid hown1;have HB1:=hid ((zAl wr _).trans hb1);clear hown1 hb1)
    | (at_builtin;refine zEg rfl (.tmp 18) (.tmp 20) rfl wr.heap.size v1 ([] ++ path) [(j:Int)] rfl (HO1.out.below (zAl _ _)) (Lt (w1.alloc (.cells #[.int .i64 j] 3)).heap.size) _ _ _ rfl (zDk w1 [(j:Int)] (by simp [In64];omega) (by unfold Lt;simp) _ 1 rfl rfl (by simp [maxLen]) _ _ rfl) (by simp;omega) (by have:=HB1.out.size;simp;omega) ?_;intro v2 w2 hown2 hb2 _;simp only [List.nil_append] at hown2;obtain ⟨A2,c2,hv2⟩:=(hown2.ints (S:=fun _=>True) (fun _ _ _=>trivial)).form;rw [show (path ++ [(j:Int)]).length = path.length + 1 by simp] at hv2;subst hv2;have HO2:=hid hown2;have HB2:=hid (HB1.out.trans ((Below.alloc (Below.refl wr.heap.size w1) HB1.out.size _).trans hb2));clear hown2 hb2)
    | (at_builtin;refine zOa rfl (.tmp 15) (.tmp 22) rfl (w.heap.size + 1) _ acc [path ++ [(j:Int)]] rfl (HO.out.below (HB2.out.trans (Below.alloc (Below.refl wr.heap.size w2) HB2.out.size _))) _ _ _ rfl (zNs HO2.out hz (fun k hk=>(HO.out.own_lt k hk).2) HB2.out.size _ rfl _) (by simp;omega) (by have:=HB2.out.size;simp;omega) ?_;intro v3 w3 hown3 hb3;have HO3:=hid hown3;have HB3:=hid (HBR.out.trans ((HB2.out.trans (Below.alloc (Below.refl wr.heap.size w2) HB2.out.size _)).mono hz |>.trans hb3));obtain ⟨c3',hz3,hbw3⟩:=KEEP0.out w3 HB3.out;have HBW3:=hid hbw3;clear hown3 hb3 hbw3))
   obtain ⟨g,o,A1,cap1,rfl,hg,⟨e0,e1,e2,e3⟩,_,hul,hkids⟩:=zKl (HV.out w (Below.refl _ _)) hlt
   have HK1:Hid (∀ W,Below w.heap.size w W→W.cell? ⟨g,o + j * 4 + 3,none⟩ = some (.slice A1 ts[j].kids.length cap1)):=fun W hW=>((bcell hW).1 _ _ hg).trans e3
   have HKD:=hid hkids
   have hgl:g < w.heap.size:=hg
   have e3':=HK1.out w3 HBW3.out
   have hul':ts[j].kids.length≤9223372036854775807:=by unfold maxLen at hul;omega
   have i1:(j:Int) < (ts.length:Int):=by omega
   have HST:Hid ((acc ++ [path ++ [(j:Int)]]) ++ (zCi path j 0 (ts[j].kids.drop 0) ++ zBu path (j + 1) (ts.drop (j + 1))) = TOT):=by show _ = _;rw [← HT.out,HIT.out];simp
   clear e0 e1 e2 e3 hkids hul
   go_wp2_with fail
   go_loopw [5,7] (fun v i W=>Below (w.heap.size + 1) W0 W∧∃ (k:Nat) (acc2:List (List Int)),k≤ts[j].kids.length∧i = .int .i64 k∧zBq W (w.heap.size + 1) acc2 v∧acc2 ++ (zCi path j k (ts[j].kids.drop k) ++ zBu path (j + 1) (ts.drop (j + 1))) = TOT) (fun _ i _=>ts[j].kids.length - (intOf i).toNat)
   case atStart=>exact ⟨HB3.out,0,_,Nat.zero_le _,rfl,HO3.out,HST.out⟩
   case round =>
    obtain ⟨hbr,k,acc2,hk,rfl,hown,hrest⟩:=hrel
    have HR:=hid hrest
    have HBR2:=hid hbr
    have HO5:=hid hown
    have hacc2:acc2.length≤2000000:=by have:=congrArg List.length hrest;rw [List.length_append] at this;omega
    obtain ⟨c3,hz5,hbw⟩:=KEEP0.out wr hbr
    have HBW5:=hid hbw
    have e3:=HK1.out wr hbw
    clear hrest hown c3' e3' hz3
    rcases Nat.lt_or_ge k ts[j].kids.length with hlt2 | hge2
    ·have HSD:=hid (zHq path j hlt2)
     obtain ⟨g1,o1,A2,cap2,rfl,hg1,⟨f0,f1,f2,f3⟩,_,_,hkids2⟩:=zKl HKD.out hlt2
     have hg1l:g1 < w.heap.size:=hg1
     have i2:(k:Int) < (ts[j].kids.length:Int):=by omega
     have KC:Hid (∀ W',Below (w.heap.size + 1) wr W'→(W'.cell? ⟨w.heap.size,3,none⟩ = some (.slice (some ⟨g,o,none⟩) ts.length cap)∧W'.cell? ⟨g,o + j * 4 + 3,none⟩ = some (.slice (some ⟨g1,o1,none⟩) ts[j].kids.length cap1)∧W'.cell? ⟨g1,o1 + k * 4,none⟩ = some (.int .i64 ts[j].kids[k].kind)∧W'.cell? ⟨g1,o1 + k * 4 + 1,none⟩ = some (.string ts[j].kids[k].text)∧W'.cell? ⟨g1,o1 + k * 4 + 2,none⟩ = some (.int .i64 ts[j].kids[k].cols)∧W'.cell? ⟨g1,o1 + k * 4 + 3,none⟩ = some (.slice A2 ts[j].kids[k].kids.length cap2))∧Below w.heap.size w W'):=by
      intro W' hW'
      obtain ⟨q1,_,q3⟩:=KEEP0.out W' (hbr.trans hW')
      have hc:=(bcell q3).1
      exact ⟨⟨q1,HK1.out W' q3,(hc _ _ hg1l).trans f0,(hc _ _ hg1l).trans f1,(hc _ _ hg1l).trans f2,(hc _ _ hg1l).trans f3⟩,q3⟩
     obtain ⟨⟨_,_,k0,k1,k2,k3⟩,_⟩:=KC.out wr (Below.refl _ _)
     have hgw:g < wr.heap.size:=by omega
     have hgw1:g1 < wr.heap.size:=by omega
     have hww:w.heap.size < wr.heap.size:=by omega
     have HKD2:=hid hkids2
     have HLN:Hid (acc2.length + (allS (path ++ [(j:Int),(k:Int)]) ts[j].kids[k]).length≤1000000000):=by
      show _≤_
      have:=congrArg List.length HR.out
      rw [HSD.out] at this
      simp only [List.length_append] at this
      omega
     have HE1:Hid (∀ W',W' = wr.alloc (.cells #[] 3)→Owns W'.drew wr.heap.size [] (.slice (some ⟨wr.heap.size,0,none⟩) 0 0)∧zAh W'.drew (Lt W'.drew.heap.size) path (.slice Ap path.length cp)∧Below wr.heap.size wr W'.drew):=by
      rintro W' rfl
      have hb:Below wr.heap.size wr (wr.alloc (.cells #[] 3)).drew:=(zAl _ _).drew
      exact ⟨zCk wr,HP.out _ (hbw.trans (hb.mono hbw.size)),hb⟩
     have HE2:Hid (∀ W',W' = (wr.alloc (.cells #[] 3)).alloc (.cells #[.int .i64 j,.int .i64 k] 3)→Owns W'.drew wr.heap.size [] (.slice (some ⟨wr.heap.size,0,none⟩) 0 0)∧zAh W'.drew (Lt W'.drew.heap.size) path (.slice Ap path.length cp)∧Below wr.heap.size wr W'.drew∧zAh W'.drew (fun k=>k = wr.heap.size + 1) [(j:Int),(k:Int)] (.slice (some ⟨wr.heap.size + 1,0,none⟩) 2 2)∧W'.drew.heap.size = wr.heap.size + 1 + 1):=by
      rintro W' rfl
      have hb1:Below wr.heap.size wr (wr.alloc (.cells #[] 3)):=zAl _ _
      have hb:Below wr.heap.size wr ((wr.alloc (.cells #[] 3)).alloc (.cells #[.int .i64 j,.int .i64 k] 3)).drew:=(Below.alloc hb1 hb1.size _).drew
      exact ⟨(zCk wr).below ((zAl _ _).drew),HP.out _ (hbw.trans (hb.mono hbw.size)),hb,zDk (wr.alloc (.cells #[] 3)) [(j:Int),(k:Int)] (by simp [In64];omega) (S:=fun k=>k = wr.heap.size + 1) (by simp) _ 2 rfl rfl (by simp [maxLen]) _ _ (by simp),by simp⟩
     have HE3:Hid (∀ W',W' = (wr.alloc (.cells #[.int .i64 j,.int .i64 k] 3)).alloc (.cells #[] 3)→Owns W'.drew wr.heap.size [] (.slice (some ⟨wr.heap.size + 1,0,none⟩) 0 0)∧zAh W'.drew (Lt W'.drew.heap.size) path (.slice Ap path.length cp)∧Below wr.heap.size wr W'.drew∧zAh W'.drew (fun k=>k = wr.heap.size) [(j:Int),(k:Int)] (.slice (some ⟨wr.heap.size,0,none⟩) 2 2)∧W'.drew.heap.size = wr.heap.size + 1 + 1):=by
      rintro W' rfl
      have hb1:Below wr.heap.size wr (wr.alloc (.cells #[.int .i64 j,.int .i64 k] 3)):=zAl _ _
      have hb:Below wr.heap.size wr ((wr.alloc (.cells #[.int .i64 j,.int .i64 k] 3)).alloc (.cells #[] 3)).drew:=(Below.alloc hb1 hb1.size _).drew
      have ho:=(zCk (wr.alloc (.cells #[.int .i64 j,.int .i64 k] 3))).base (b':=wr.heap.size) (by simp)
      have hsz:(wr.alloc (.cells #[.int .i64 j,.int .i64 k] 3)).heap.size = wr.heap.size + 1:=by simp
      rw [hsz] at ho
      exact ⟨ho,HP.out _ (hbw.trans (hb.mono hbw.size)),hb,(zDk wr [(j:Int),(k:Int)] (by simp [In64];omega) (S:=fun k=>k = wr.heap.size) rfl _ 2 rfl rfl (by simp [maxLen]) _ _ rfl).keep (fun p hp=>(zAl (wr.alloc (.cells #[.int .i64 j,.int .i64 k] 3)) (.cells #[] 3)).cell (by rw [hp];simp)) (fun _ h=>h),by simp⟩
     clear f0 f1 f2 f3 hkids2 hbr hbw
     go_wp2_with fail
     go_region_held3 (fun w'=>w'.cell? ⟨w.heap.size,3,none⟩ = some (.slice (some ⟨g,o,none⟩) ts.length cap)∧w'.cell? ⟨g,o + j * 4 + 3,none⟩ = some (.slice (some ⟨g1,o1,none⟩) ts[j].kids.length cap1)∧w'.cell? ⟨g1,o1 + k * 4,none⟩ = some (.int .i64 ts[j].kids[k].kind)∧w'.cell? ⟨g1,o1 + k * 4 + 1,none⟩ = some (.string ts[j].kids[k].text)∧w'.cell? ⟨g1,o1 + k * 4 + 2,none⟩ = some (.int .i64 ts[j].kids[k].cols)∧w'.cell? ⟨g1,o1 + k * 4 + 3,none⟩ = some (.slice A2 ts[j].kids[k].kids.length cap2)) (go_keep) (first
      | (refine zBl (by rfl) (.tmp 50) (.tmp 51) (by rfl) wr.heap.size _ [] path (by rfl) (HE1.out _ rfl).1 _ _ _ _ (by rfl) (HE1.out _ rfl).2.1 (by simp;omega) (by simp) ?_;intro v1 w1 hown1 hb1 hg1;have HO1:=hid hown1;have HB1:=hid ((HE1.out _ rfl).2.2.trans hb1);obtain ⟨⟨p1,p2,p3,p4,p5,p6⟩,p7⟩:=KC.out w1 (HB1.out.mono hz5);have HP7:=hid p7;clear hown1 hb1 hg1 p7)
      | (refine zBl (by rfl) (.tmp 50) (.tmp 51) (by rfl) wr.heap.size _ [] path (by rfl) (HE2.out _ rfl).1 _ _ _ _ (by rfl) (HE2.out _ rfl).2.1 (by simp;omega) (by simp;omega) ?_;intro v1 w1 hown1 hb1 hg1;have HL1:=hid (zFd (HE2.out _ rfl).2.2.2.1 hg1 (by have:=(HE2.out _ rfl).2.2.2.2;omega) (by simp [Value.ownBlock]));have HO1:=hid hown1;have HB1:=hid ((HE2.out _ rfl).2.2.1.trans hb1);obtain ⟨⟨p1,p2,p3,p4,p5,p6⟩,p7⟩:=KC.out w1 (HB1.out.mono hz5);have HP7:=hid p7;clear hown1 hb1 hg1 p7)
      | (refine zBl (by rfl) (.tmp 50) (.tmp 51) (by rfl) wr.heap.size _ [] path (by rfl) (HE3.out _ rfl).1 _ _ _ _ (by rfl) (HE3.out _ rfl).2.1 (by simp;omega) (by simp;omega) ?_;intro v1 w1 hown1 hb1 hg1;have HL1:=hid (zFd (HE3.out _ rfl).2.2.2.1 hg1 (by have:=(HE3.out _ rfl).2.2.2.2;omega) (by simp [Value.ownBlock]));have HO1:=hid hown1;have HB1:=hid ((HE3.out _ rfl).2.2.1.trans hb1);obtain ⟨⟨p1,p2,p3,p4,p5,p6⟩,p7⟩:=KC.out w1 (HB1.out.mono hz5);have HP7:=hid p7;clear hown1 hb1 hg1 p7)
      | (refine zBl (by rfl) (.tmp 52) (.tmp 55) (by rfl) wr.heap.size v1 ([] ++ path) [(j:Int),(k:Int)] (by rfl) HO1.out _ _ _ _ (by rfl) HL1.out (by simp;omega) HB1.out.size ?_;intro v2 w2 hown2 hb2 _;simp only [List.nil_append] at hown2;obtain ⟨A3,c3n,hv2⟩:=(hown2.ints (S:=fun _=>True) (fun _ _ _=>trivial)).form;rw [show (path ++ [(j:Int),(k:Int)]).length = path.length + 2 by simp] at hv2;subst hv2;have HO2:=hid hown2;have HB2:=hid (HB1.out.trans hb2);obtain ⟨⟨p1,p2,p3,p4,p5,p6⟩,p7⟩:=KC.out w2 (HB2.out.mono hz5);have HP8:=hid p7;clear hown2 hb2 p7)
      | (refine zBl (by rfl) (.tmp 52) (.tmp 55) (by rfl) wr.heap.size v1 ([] ++ path) [(j:Int),(k:Int)] (by rfl) (HO1.out.below (zAl _ _)) (Lt (w1.alloc (.cells #[.int .i64 j,.int .i64 k] 3)).heap.size) _ _ _ (by rfl) (zDk w1 [(j:Int),(k:Int)] (by simp [In64];omega) (by unfold Lt;simp) _ 2 rfl rfl (by simp [maxLen]) _ _ rfl) (by simp;omega) (by have:=HB1.out.size;simp;omega) ?_;intro v2 w2 hown2 hb2 _;simp only [List.nil_append] at hown2;obtain ⟨A3,c3n,hv2⟩:=(hown2.ints (S:=fun _=>True) (fun _ _ _=>trivial)).form;rw [show (path ++ [(j:Int),(k:Int)]).length = path.length + 2 by simp] at hv2;subst hv2;have HO2:=hid hown2;have HB2:=hid (HB1.out.trans ((Below.alloc (Below.refl wr.heap.size w1) HB1.out.size _).trans hb2));obtain ⟨⟨p1,p2,p3,p4,p5,p6⟩,p7⟩:=KC.out w2 (HB2.out.mono hz5);have HP8:=hid p7;clear hown2 hb2 p7)
      | (go_at_call 36;refine (HIH.out j k hlt hlt2 A2 A3 cap2 c3n w2 (HKD2.out.below HP8.out HP8.out.size) (HO2.out.ints (S:=Lt w2.heap.size) (fun _ _ h=>h))).mono ?_;rintro e w5 ⟨v5,rfl,hr5,hb5⟩;obtain ⟨A5,c5,rfl⟩:=hr5.rows.form;have HR5:=hid hr5;have HB5:=hid (HB2.out.trans (hb5.mono HB2.out.size));obtain ⟨⟨p1,p2,p3,p4,p5,p6⟩,p7⟩:=KC.out w5 (HB5.out.mono hz5);clear hr5 hb5 p7)
      | (refine zJ2 (by rfl) (.tmp 40) (.tmp 57) (by rfl) (w.heap.size + 1) _ acc2 _ (by rfl) (HO5.out.below HB5.out) _ _ _ (by rfl) (HO5.out.fresh HR5.out (by have:=HB2.out.size;omega) HB2.out.size) HLN.out (by have:=HB5.out.size;omega) ?_;intro v6 w6 hown6 hb6;have HO6:=hid hown6;have HB6:=hid (HBR2.out.trans ((HB5.out.mono hz5).trans hb6));obtain ⟨⟨p1,p2,p3,p4,p5,p6⟩,p7⟩:=KC.out w6 ((HB5.out.mono hz5).trans hb6);clear hown6 hb6 p7))
     all_goals
      go_wp2_with fail
      go_roundw
      case rel=>exact ⟨HB6.out,k + 1,_,by omega,by go_num,HO6.out,by rw [← HR.out,HSD.out];simp⟩
      case measure=>simp [intOf];omega
    ·have HF:Hid (acc2 ++ zBu path (j + 1) (ts.drop (j + 1)) = TOT):=by show _ = _;rw [← HR.out,show ts[j].kids.drop k = [] from List.drop_of_length_le hge2,zCi,List.nil_append]
     clear hbr hbw
     go_wp2_with fail
     go_roundw
     case rel=>exact ⟨HBR2.out,j + 1,acc2,by omega,by go_num,HO5.out,HF.out⟩
     case measure=>simp [intOf];omega
  ·have hje:j = ts.length:=by omega
   have d1:((j:Int) == (ts.length:Int)) = true:=by simp;omega
   have HF:Hid (acc ++ [path ++ [(j:Int)]] = TOT):=by show _ = _;rw [← HT.out,List.drop_of_length_le (by omega),zBu]
   clear hje hge
   go_wp2_with (first
    | (at_builtin;refine zEg rfl (.tmp 16) (.tmp 17) rfl wr.heap.size _ [] path rfl (zCk wr) _ _ _ _ rfl (HP.out _ HA0.out) (by simp;omega) (by simp) ?_;intro v1 w1 hown1 hb1 _;have HO1:=hid hown1;have HB1:=hid ((zAl wr _).trans hb1);clear hown1 hb1)
    | (at_builtin;refine zEg rfl (.tmp 18) (.tmp 20) rfl wr.heap.size v1 ([] ++ path) [(j:Int)] rfl (HO1.out.below (zAl _ _)) (Lt (w1.alloc (.cells #[.int .i64 j] 3)).heap.size) _ _ _ rfl (zDk w1 [(j:Int)] (by simp [In64];omega) (by unfold Lt;simp) _ 1 rfl rfl (by simp [maxLen]) _ _ rfl) (by simp;omega) (by have:=HB1.out.size;simp;omega) ?_;intro v2 w2 hown2 hb2 _;simp only [List.nil_append] at hown2;obtain ⟨A2,c2,hv2⟩:=(hown2.ints (S:=fun _=>True) (fun _ _ _=>trivial)).form;rw [show (path ++ [(j:Int)]).length = path.length + 1 by simp] at hv2;subst hv2;have HO2:=hid hown2;have HB2:=hid (HB1.out.trans ((Below.alloc (Below.refl wr.heap.size w1) HB1.out.size _).trans hb2));clear hown2 hb2)
    | (at_builtin;refine zOa rfl (.tmp 15) (.tmp 22) rfl (w.heap.size + 1) _ acc [path ++ [(j:Int)]] rfl (HO.out.below (HB2.out.trans (Below.alloc (Below.refl wr.heap.size w2) HB2.out.size _))) _ _ _ rfl (zNs HO2.out hz (fun k hk=>(HO.out.own_lt k hk).2) HB2.out.size _ rfl _) (by simp;omega) (by have:=HB2.out.size;simp;omega) ?_;intro v3 w3 hown3 hb3;have HO3:=hid hown3;have HB3:=hid (HBR.out.trans ((HB2.out.trans (Below.alloc (Below.refl wr.heap.size w2) HB2.out.size _)).mono hz |>.trans hb3));obtain ⟨c3',hz3,hbw3⟩:=KEEP0.out w3 HB3.out;have HBW3:=hid hbw3;clear hown3 hb3 hbw3))
   go_ret
   exact ⟨_,rfl,by rw [← HF.out];exact HO3.out.base (Nat.le_succ _),HBW3.out⟩
end Go.Proofs.YtbjcioknfjofkaaGreat
