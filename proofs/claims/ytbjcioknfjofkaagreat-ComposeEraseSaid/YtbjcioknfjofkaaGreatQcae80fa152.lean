/- Texts put together. -/
import Derived.Test.YtbjcioknfjofkaaGreatQb55496f77f
import Derived.Test.YtbjcioknfjofkaaGreatQ15642f0ed8
import Derived.Test.YtbjcioknfjofkaaGreatQ1203fa1d6d
import Derived.Test.YtbjcioknfjofkaaGreatQf027d70dc5
import Derived.Test.YtbjcioknfjofkaaGreatQb423201e5f
import Derived.Test.YtbjcioknfjofkaaGreatQcc5716f5ff
import Derived.Deep.RegionHeld3
set_option linter.unusedVariables false
set_option linter.unusedSimpArgs false
set_option maxRecDepth 100000
namespace Go.Proofs.YtbjcioknfjofkaaGreat
open Go.RowKit
set_option maxHeartbeats 4000000 in
theorem zOm (row:List Int) (x y:Int) (vr:Value) (w:World) (hr:zAh w (Lt w.heap.size) row vr) (hrl:row.length≤100000) (hx:In64 x) :
  Calls Tryz.prog 140 #[.agg #[vr,.int .i64 x,.int .i64 y]] w (zGi w (row ++ [x])):=by
 obtain ⟨Ar,cr,rfl⟩:=hr.form
 have hb0:Below w.heap.size w (w.alloc (.cells #[.slice Ar row.length cr,.int .i64 x,.int .i64 y] 46)):=zAl _ _
 have hr0:=hr.below hb0 hb0.size
 generalize hW0:w.alloc (.cells #[.slice Ar row.length cr,.int .i64 x,.int .i64 y] 46) = W0 at *
 have hz:w.heap.size < W0.heap.size:=by rw [← hW0];simp
 have m0:W0.cell? ⟨w.heap.size,0,none⟩ = some (.slice Ar row.length cr):=by rw [← hW0,World.cell?_alloc_new];rfl
 have m1:W0.cell? ⟨w.heap.size,1,none⟩ = some (.int .i64 x):=by rw [← hW0,World.cell?_alloc_new];rfl
 have KC:Hid (∀ W,Below W0.heap.size W0 W→W.cell? ⟨w.heap.size,0,none⟩ = some (.slice Ar row.length cr)∧W.cell? ⟨w.heap.size,1,none⟩ = some (.int .i64 x)):=fun W h=>⟨((bcell h).1 _ _ hz).trans m0,((bcell h).1 _ _ hz).trans m1⟩
 have HE1:Hid (∀ W',W' = W0.alloc (.cells #[] 3)→Owns W'.drew W0.heap.size [] (.slice (some ⟨W0.heap.size,0,none⟩) 0 0)∧zAh W'.drew (Lt W'.drew.heap.size) row (.slice Ar row.length cr)∧Below W0.heap.size W0 W'.drew):=by
  rintro W' rfl
  have hb:Below W0.heap.size W0 (W0.alloc (.cells #[] 3)).drew:=(zAl _ _).drew
  exact ⟨zCk W0,hr0.below hb hb.size,hb⟩
 have HE2:Hid (∀ W',W' = (W0.alloc (.cells #[] 3)).alloc (.cells #[.int .i64 x] 3)→Owns W'.drew W0.heap.size [] (.slice (some ⟨W0.heap.size,0,none⟩) 0 0)∧zAh W'.drew (Lt W'.drew.heap.size) row (.slice Ar row.length cr)∧Below W0.heap.size W0 W'.drew∧zAh W'.drew (fun k=>k = W0.heap.size + 1) [x] (.slice (some ⟨W0.heap.size + 1,0,none⟩) 1 1)∧W'.drew.heap.size = W0.heap.size + 1 + 1):=by
  rintro W' rfl
  have hb1:Below W0.heap.size W0 (W0.alloc (.cells #[] 3)):=zAl _ _
  have hb:Below W0.heap.size W0 ((W0.alloc (.cells #[] 3)).alloc (.cells #[.int .i64 x] 3)).drew:=(Below.alloc hb1 hb1.size _).drew
  exact ⟨(zCk W0).below ((zAl _ _).drew),hr0.below hb hb.size,hb,zDk (W0.alloc (.cells #[] 3)) [x] (by simpa using hx) (S:=fun k=>k = W0.heap.size + 1) (by simp) _ 1 rfl rfl (by simp [maxLen]) _ _ (by simp),by simp⟩
 have HE3:Hid (∀ W',W' = (W0.alloc (.cells #[.int .i64 x] 3)).alloc (.cells #[] 3)→Owns W'.drew W0.heap.size [] (.slice (some ⟨W0.heap.size + 1,0,none⟩) 0 0)∧zAh W'.drew (Lt W'.drew.heap.size) row (.slice Ar row.length cr)∧Below W0.heap.size W0 W'.drew∧zAh W'.drew (fun k=>k = W0.heap.size) [x] (.slice (some ⟨W0.heap.size,0,none⟩) 1 1)∧W'.drew.heap.size = W0.heap.size + 1 + 1):=by
  rintro W' rfl
  have hb1:Below W0.heap.size W0 (W0.alloc (.cells #[.int .i64 x] 3)):=zAl _ _
  have hb:Below W0.heap.size W0 ((W0.alloc (.cells #[.int .i64 x] 3)).alloc (.cells #[] 3)).drew:=(Below.alloc hb1 hb1.size _).drew
  have ho:=(zCk (W0.alloc (.cells #[.int .i64 x] 3))).base (b':=W0.heap.size) (by simp)
  have hsz:(W0.alloc (.cells #[.int .i64 x] 3)).heap.size = W0.heap.size + 1:=by simp
  rw [hsz] at ho
  exact ⟨ho,hr0.below hb hb.size,hb,(zDk W0 [x] (by simpa using hx) (S:=fun k=>k = W0.heap.size) rfl _ 1 rfl rfl (by simp [maxLen]) _ _ rfl).keep (fun p hp=>(zAl (W0.alloc (.cells #[.int .i64 x] 3)) (.cells #[] 3)).cell (by rw [hp];simp)) (fun _ h=>h),by simp⟩
 have HB0:=hid hb0
 have HX:=hid hx
 clear hr hr0 hb0 hx
 go_enter Tryz.func140,Tryz.ntmps140
 go_wp2_with fail
 clear hW0
 go_region_held3 (fun w'=>w'.cell? ⟨w.heap.size,0,none⟩ = some (.slice Ar row.length cr)∧w'.cell? ⟨w.heap.size,1,none⟩ = some (.int .i64 x)) (go_keep) (first
  | (refine zBl (by rfl) (.tmp 3) (.tmp 5) (by rfl) W0.heap.size _ [] row (by rfl) (HE1.out _ rfl).1 _ _ _ _ (by rfl) (HE1.out _ rfl).2.1 (by simp;omega) (by simp) ?_;intro v1 w1 hown1 hb1 hg1;have HO1:=hid hown1;have HB1:=hid ((HE1.out _ rfl).2.2.trans hb1);obtain ⟨p1,p2⟩:=KC.out w1 HB1.out;clear hown1 hb1 hg1)
  | (refine zBl (by rfl) (.tmp 3) (.tmp 5) (by rfl) W0.heap.size _ [] row (by rfl) (HE2.out _ rfl).1 _ _ _ _ (by rfl) (HE2.out _ rfl).2.1 (by simp;omega) (by simp;omega) ?_;intro v1 w1 hown1 hb1 hg1;have HL1:=hid (zFd (HE2.out _ rfl).2.2.2.1 hg1 (by have:=(HE2.out _ rfl).2.2.2.2;omega) (by simp [Value.ownBlock]));have HO1:=hid hown1;have HB1:=hid ((HE2.out _ rfl).2.2.1.trans hb1);obtain ⟨p1,p2⟩:=KC.out w1 HB1.out;clear hown1 hb1 hg1)
  | (refine zBl (by rfl) (.tmp 3) (.tmp 5) (by rfl) W0.heap.size _ [] row (by rfl) (HE3.out _ rfl).1 _ _ _ _ (by rfl) (HE3.out _ rfl).2.1 (by simp;omega) (by simp;omega) ?_;intro v1 w1 hown1 hb1 hg1;have HL1:=hid (zFd (HE3.out _ rfl).2.2.2.1 hg1 (by have:=(HE3.out _ rfl).2.2.2.2;omega) (by simp [Value.ownBlock]));have HO1:=hid hown1;have HB1:=hid ((HE3.out _ rfl).2.2.1.trans hb1);obtain ⟨p1,p2⟩:=KC.out w1 HB1.out;clear hown1 hb1 hg1)
  | (refine zBl (by rfl) (.tmp 6) (.tmp 9) (by rfl) W0.heap.size v1 ([] ++ row) [x] (by rfl) HO1.out _ _ _ _ (by rfl) HL1.out (by simp;omega) HB1.out.size ?_;intro v2 w2 hown2 hb2 _;simp only [List.nil_append] at hown2;have HO2:=hid hown2;have HB2:=hid (HB1.out.trans hb2);obtain ⟨p1,p2⟩:=KC.out w2 HB2.out;clear hown2 hb2)
  | (refine zBl (by rfl) (.tmp 6) (.tmp 9) (by rfl) W0.heap.size v1 ([] ++ row) [x] (by rfl) (HO1.out.below (zAl _ _)) (Lt (w1.alloc (.cells #[.int .i64 x] 3)).heap.size) _ _ _ (by rfl) (zDk w1 [x] (by simpa using HX.out) (by unfold Lt;simp) _ 1 rfl rfl (by simp [maxLen]) _ _ rfl) (by simp;omega) (by have:=HB1.out.size;simp;omega) ?_;intro v2 w2 hown2 hb2 _;simp only [List.nil_append] at hown2;have HO2:=hid hown2;have HB2:=hid (HB1.out.trans ((Below.alloc (Below.refl W0.heap.size w1) HB1.out.size _).trans hb2));obtain ⟨p1,p2⟩:=KC.out w2 HB2.out;clear hown2 hb2))
 all_goals
  go_wp2_with fail
  go_ret
  exact ⟨_,rfl,HO2.out.ints (fun _ _ h=>h),HB0.out.trans (HB2.out.mono HB0.out.size)⟩
theorem row_at {w w':World} {L:List (List Int)} {A:Option Addr} {c B:Nat} (h:zBq w' B L (.slice A L.length c)) {k:Nat} (hk:k < L.length) :
  ∃ g o A1 c1,A = some ⟨g,o,none⟩∧w'.cell? ⟨g,o + k,none⟩ = some (.slice A1 L[k].length c1)∧zAh w' (fun i=>B≤i∧i < w'.heap.size) L[k] (.slice A1 L[k].length c1):=by
 obtain ⟨_,_,rs,hq,_,_,hrd,hls⟩:=h.rows
 cases hq
 obtain ⟨g,o,A3,c3,rs3,rfl,hg,q0,h5,h6,h7,h8⟩:=zJ5 hrd hls hk
 exact ⟨g,o,A3,c3,rfl,q0,_,_,rs3,rfl,h5,h6,h7,h8⟩
set_option maxHeartbeats 2000000 in
theorem rAt_any (t:Tree) (i:Int) (A:Option Addr) (cap:Nat) (w:World) (hv:zAa zAb w (Lt w.heap.size) t.kids (.slice A t.kids.length cap)) (htx:t.text.size≤maxLen) (hct:zAe t≤900000) :
  Calls Tryz.prog 169 #[.agg #[.int .i64 t.kind,.string t.text,.int .i64 t.cols,.slice A t.kids.length cap],.int .i64 i] w (zIt w (atR t i)):=by
 have HB0:Hid (Below w.heap.size w (w.alloc (Obj.cells #[.int .i64 t.kind,.string t.text,.int .i64 t.cols,.slice A t.kids.length cap] 24))):=zAl _ _
 have C1:=hid (zNx t A cap _ (hv.below HB0.out HB0.out.size) htx hct)
 have hL:=zNl t hct
 have HR0:Hid (zAf t = false→atR t i = ([],1)):=fun h=>by simp [atR,h]
 have HR1:Hid (zAf t = true→atR t i = atL (allS [] t) i):=fun h=>by simp [atR,h]
 have HAT:Hid (∀ (k:Nat) (hk:k < (allS [] t).length),i = (k:Int)→atL (allS [] t) i = ((allS [] t)[k],0)):=fun k hk h=>by rw [zNk _ k h,List.getElem?_eq_getElem hk]
 have HNO:Hid ((i < 0∨((allS [] t).length:Int)≤i)→atL (allS [] t) i = ([],2)):=fun h=>by
  by_cases h0:0≤i
  ·rw [atL,if_pos h0,List.getElem?_eq_none (by omega)]
  ·rw [atL,if_neg h0]
 generalize atR t i = r at *
 generalize allS [] t = L at *
 generalize zAf t = b at *
 obtain ⟨tk,tx,tc,ts⟩:=t
 simp only [Tree.kind,Tree.text,Tree.cols,Tree.kids] at *
 clear hv htx hct
 by_cases hi0:i < 0
 ·have d0:decide (i < 0) = true:=by simpa using hi0
  have HF:=hid (HNO.out (.inl hi0))
  clear hi0
  go_enter Tryz.func169,Tryz.ntmps169
  go_wp2_with fail
  refine C1.out.mono ?_
  rintro e w1 ⟨hb1,(⟨rfl,rfl⟩ | ⟨rfl,v,rfl,hr⟩)⟩
  ·have HB1:=hid (zDh HB0.out hb1)
   clear hb1
   go_wp2_with fail
   go_ret2
   rw [HR0.out (by trivial)]
   exact ⟨HB1.out,_,rfl,zAa.nil_ 0 (by simp [maxLen]) none⟩
  ·have HB1:=hid (zDh HB0.out hb1)
   obtain ⟨A2,c2,rfl⟩:=hr.rows.form
   clear hb1 hr
   go_wp2_with fail
   go_ret2
   rw [HR1.out (by trivial),HF.out]
   exact ⟨HB1.out,_,rfl,zAa.nil_ 0 (by simp [maxLen]) none⟩
 ·have d0:decide (i < 0) = false:=by simpa using hi0
  have i0:(0:Int)≤i:=by omega
  rcases Nat.lt_or_ge i.toNat L.length with hlt | hge
  ·have d1:decide ((L.length:Int)≤i) = false:=by simp;omega
   have i1:i < (L.length:Int):=by omega
   obtain ⟨k,rfl⟩:∃ k:Nat,i = (k:Int):=⟨i.toNat,by omega⟩
   rw [Int.toNat_natCast] at hlt
   have HF:=hid (HAT.out k hlt rfl)
   clear hi0
   go_enter Tryz.func169,Tryz.ntmps169
   go_wp2_with fail
   refine C1.out.mono ?_
   rintro e w1 ⟨hb1,(⟨rfl,rfl⟩ | ⟨rfl,v,rfl,hr⟩)⟩
   ·have HB1:=hid (zDh HB0.out hb1)
    clear hb1
    go_wp2_with fail
    go_ret2
    rw [HR0.out (by trivial)]
    exact ⟨HB1.out,_,rfl,zAa.nil_ 0 (by simp [maxLen]) none⟩
   ·have HB1:=hid (zDh HB0.out hb1)
    obtain ⟨A2,c2,rfl⟩:=hr.rows.form
    obtain ⟨g,o,A3,c3,rfl,q0,hq⟩:=row_at (w:=w) hr hlt
    have HQ:Hid (zAh w1 (fun i=>w.heap.size≤i∧i < w1.heap.size) L[k] (.slice A3 L[k].length c3)):=hq.wide fun j hj=>⟨by have:=HB0.out.size;omega,hj.2⟩
    clear hb1 hr hq
    go_wp2_with fail
    go_ret2
    rw [HR1.out (by trivial),HF.out]
    exact ⟨HB1.out,_,rfl,HQ.out⟩
  ·have d1:decide ((L.length:Int)≤i) = true:=by simp;omega
   have HF:=hid (HNO.out (.inr (by omega)))
   clear hi0 hge
   go_enter Tryz.func169,Tryz.ntmps169
   go_wp2_with fail
   refine C1.out.mono ?_
   rintro e w1 ⟨hb1,(⟨rfl,rfl⟩ | ⟨rfl,v,rfl,hr⟩)⟩
   ·have HB1:=hid (zDh HB0.out hb1)
    clear hb1
    go_wp2_with fail
    go_ret2
    rw [HR0.out (by trivial)]
    exact ⟨HB1.out,_,rfl,zAa.nil_ 0 (by simp [maxLen]) none⟩
   ·have HB1:=hid (zDh HB0.out hb1)
    obtain ⟨A2,c2,rfl⟩:=hr.rows.form
    clear hb1 hr
    go_wp2_with fail
    go_ret2
    rw [HR1.out (by trivial),HF.out]
    exact ⟨HB1.out,_,rfl,zAa.nil_ 0 (by simp [maxLen]) none⟩
set_option maxHeartbeats 2000000 in
theorem zPu (t:Tree) (p:List Int) (d:Int) (hd:d = 1∨d = -1) (A:Option Addr) (cap:Nat) (b:Value) (w:World) (hv:zAa zAb w (Lt w.heap.size) t.kids (.slice A t.kids.length cap)) (htx:t.text.size≤maxLen) (hct:zAe t≤900000) (hp:zAh w (Lt w.heap.size) p b) :
  Calls Tryz.prog 144 #[.agg #[.int .i64 t.kind,.string t.text,.int .i64 t.cols,.slice A t.kids.length cap],b,.int .i64 d] w (zIt w (zDy t p d)):=by
 have HB0:Hid (Below w.heap.size w (w.alloc (Obj.cells #[.int .i64 t.kind,.string t.text,.int .i64 t.cols,.slice A t.kids.length cap] 24))):=zAl _ _
 have C1:=hid (zJa t p A cap b _ (hv.below HB0.out HB0.out.size) htx hct (hp.below HB0.out HB0.out.size))
 have C2:Hid (∀ j W,Below w.heap.size w W→zAf t = true→Calls Tryz.prog 169 #[.agg #[.int .i64 t.kind,.string t.text,.int .i64 t.cols,.slice A t.kids.length cap],.int .i64 j] W (zIt W (atL (allS [] t) j))):=fun j W h hvv=>by
  have:=rAt_any t j A cap W (hv.below h h.size) htx hct
  rwa [atR,hvv,if_pos rfl] at this
 have KB:Hid (∀ W,Below (w.alloc (Obj.cells #[.int .i64 t.kind,.string t.text,.int .i64 t.cols,.slice A t.kids.length cap] 24)).heap.size (w.alloc (Obj.cells #[.int .i64 t.kind,.string t.text,.int .i64 t.cols,.slice A t.kids.length cap] 24)) W→NBox W w.heap.size t.kind t.cols t.text (.slice A t.kids.length cap)) :=
  fun W hW=>(NBox.new w t.kind t.cols t.text _).below hW (by simp)
 have hL:=zNl t hct
 have HR0:Hid (zAf t = false→zDy t p d = ([],1)):=fun h=>by simp [zDy,h]
 have HR1:Hid (zAf t = true→idxS (allS [] t) p = none→zDy t p d = ([],2)):=fun h h1=>by simp [zDy,zKy,h,h1]
 have HR2:Hid (∀ i,zAf t = true→idxS (allS [] t) p = some i→zDy t p d = if (atL (allS [] t) ((i:Int) + d)).2 = 0 then ((atL (allS [] t) ((i:Int) + d)).1,0) else ([],8)):=fun i h h1=>by simp [zDy,zKy,h,h1]
 obtain ⟨A',cap',rfl⟩:=hp.form
 generalize zDy t p d = r at *
 generalize allS [] t = L at *
 generalize zAf t = b at *
 obtain ⟨tk,tx,tc,ts⟩:=t
 simp only [Tree.kind,Tree.text,Tree.cols,Tree.kids] at *
 clear hv htx hct hp
 have hd1:-1≤d:=by omega
 have hd2:d≤1:=by omega
 clear hd
 go_enter Tryz.func144,Tryz.ntmps144
 go_wp2_with fail
 refine C1.out.mono ?_
 rintro e w1 ⟨hb1,(⟨rfl,rfl⟩ | ⟨rfl,(⟨h1,rfl⟩ | ⟨i,h0,h1,rfl⟩)⟩)⟩
 ·have HB1:=hid (zDh HB0.out hb1)
  clear hb1
  go_wp2_with fail
  go_ret2
  rw [HR0.out (by trivial)]
  exact ⟨HB1.out,_,rfl,zAa.nil_ 0 (by simp [maxLen]) none⟩
 ·have HB1:=hid (zDh HB0.out hb1)
  have HF:=hid (HR1.out (by trivial) h1)
  clear hb1 h1
  go_wp2_with fail
  go_ret2
  rw [HF.out]
  exact ⟨HB1.out,_,rfl,zAa.nil_ 0 (by simp [maxLen]) none⟩
 ·have HB1:=hid (zDh HB0.out hb1)
  have HF:=hid (HR2.out i rfl h1)
  obtain ⟨q0,q1,q2,q3⟩:=KB.out w1 hb1
  have hi1:(i:Int)≤2000000:=by omega
  have hi2:(0:Int)≤(i:Int):=by omega
  have HC:=hid (C2.out ((i:Int) + d) w1 HB1.out rfl)
  clear hb1 h1 C2 KB HR0 HR1 HR2
  obtain ⟨m,er,hm⟩:∃ m er,atL L ((i:Int) + d) = (m,er):=⟨_,_,rfl⟩
  rw [hm] at HC HF
  dsimp only at HF
  by_cases her:er = 0
  ·subst her
   have HF2:Hid (r = (m,0)):=by show _ = _;rw [HF.out,if_pos rfl]
   clear HF hm
   go_wp2_with fail
   refine HC.out.mono ?_
   rintro e w2 ⟨hb2,v,rfl,hi⟩
   obtain ⟨A2,c2,rfl⟩:=hi.form
   have HB2:=hid (zDh HB1.out hb2)
   have HI:Hid (zAh w2 (fun i=>w.heap.size≤i∧i < w2.heap.size) m (.slice A2 m.length c2)):=zAa.wide hi fun j hj=>⟨by have:=HB1.out.size;omega,hj.2⟩
   clear hb2 hi
   go_wp2_with fail
   go_ret2
   rw [HF2.out]
   exact ⟨HB2.out,_,rfl,HI.out⟩
  ·have HF2:Hid (r = ([],8)):=by show _ = _;rw [HF.out,if_neg her]
   have d1:(er != 0) = true:=by simpa using her
   clear HF hm her
   go_wp2_with fail
   refine HC.out.mono ?_
   rintro e w2 ⟨hb2,v,rfl,hi⟩
   obtain ⟨A2,c2,rfl⟩:=zAa.form hi
   have HB2:=hid (zDh HB1.out hb2)
   clear hb2 hi
   go_wp2_with fail
   go_ret2
   rw [HF2.out]
   exact ⟨HB2.out,_,rfl,zAa.nil_ 0 (by simp [maxLen]) none⟩
end Go.Proofs.YtbjcioknfjofkaaGreat
