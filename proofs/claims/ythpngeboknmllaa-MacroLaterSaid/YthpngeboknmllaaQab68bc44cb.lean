/- Texts put together. -/
import Derived.Test.YthpngeboknmllaaQf30ca507da
import Derived.Test.YthpngeboknmllaaQ11bc1d59f5
import Derived.Test.YthpngeboknmllaaQ6a6d851a31
import Derived.Test.YthpngeboknmllaaQ0dabe99650
import Derived.Deep.DeepCutAuto
import Derived.Deep.RegionHeld3
import Derived.BigRegion
import Derived.IntWalk
import Derived.Laws.ResultCell
set_option linter.unusedVariables false
set_option linter.unusedSimpArgs false
set_option maxRecDepth 100000
namespace Go.Proofs.Ythpngeboknmllaa
open Go.RowKit
mutual
theorem plN_cnt (P : Int) : (t : Tree) → (d m : Int) → (ok : Bool) → m ≤ (plN P t d m ok).2.1 ∧ (plN P t d m ok).2.1 ≤ m + countS t
  | .mk k s c ts, d, m, ok => by
    rw [plN, countS]
    split
    · simp only; omega
    · have h := plNs_cnt P ts (d + 1) (m + 1) (if (placeS (.mk k s c ts)).2 then ok && decide ((placeS (.mk k s c ts)).1 ≤ P) else ok)
      simp only; omega
theorem plNs_cnt (P : Int) : (ts : List Tree) → (d m : Int) → (ok : Bool) → m ≤ (plNs P ts d m ok).2.1 ∧ (plNs P ts d m ok).2.1 ≤ m + countsS ts
  | [], d, m, ok => by simp [plNs, countsS]
  | t :: ts, d, m, ok => by
    rw [plNs, countsS]
    split
    · have h1 := plN_cnt P t d m ok
      have h2 := plNs_cnt P ts d (plN P t d m ok).2.1 (plN P t d m ok).2.2
      simp only; omega
    · simp only; omega
end
theorem plNs_len (P : Int) : (ts : List Tree) → (d m : Int) → (ok : Bool) → (plNs P ts d m ok).1.length ≤ ts.length
  | [], d, m, ok => by simp [plNs]
  | t :: ts, d, m, ok => by
    rw [plNs]
    split
    · have h := plNs_len P ts d (plN P t d m ok).2.1 (plN P t d m ok).2.2
      simp only [List.length_cons]; omega
    · simp
theorem plN_ok64 (P:Int) (t:Tree) (d m:Int) (ok:Bool) (h:NodeOk t):NodeOk (plN P t d m ok).1:=by
 obtain ⟨k,s,c,ts⟩:=t
 rw [plN]
 split
 ·exact ⟨by simp [zeroT,Tree.kind,In64],by simp [zeroT,Tree.cols,In64],Nat.zero_le _⟩
 ·refine ⟨h.1,h.2.1,?_⟩
  simp only [Tree.text]
  split
  ·show (1:Nat)≤maxLen;simp [maxLen]
  ·exact h.2.2
def PlP (B:Nat) (w:World) (P:Int) (r:Tree × Int × Bool) (e:Ending) (w':World):Prop :=
 ∃ v,e = .returned (.agg #[.int .i64 r.1.kind,.string r.1.text,.int .i64 r.1.cols,v])∧SliceR treeE w' (fun q=>w.heap.size≤q∧q < w'.heap.size) r.1.kids v∧Kept (fun k=>k = B) w w'∧HasObj w' B (.cells #[.int .i64 P,.int .i64 r.2.1,.bool r.2.2] 63)
set_option maxHeartbeats 16000000 in
theorem plainer_any (P:Int) (t:Tree):∀ (w:World) (B g o:Nat) (A:Option Addr) (cap:Nat) (rs:List Value) (m d:Int) (ok:Bool) (_:NodeOk t) (_:NodeAt w (Lt B) g o t A cap rs) (_:HasObj w B (.cells #[.int .i64 P,.int .i64 m,.bool ok] 63)) (_:0≤m∧m + countS t≤1000000) (_:0≤d∧d≤1000),
  Calls Try.prog 29 #[.pointer (some ⟨B,0,none⟩),.pointer (some ⟨g,o,none⟩),.int .i64 d] w (PlP B w P (plN P t d m ok)):=by
 induction t using Tree.ind with
 | h t ih =>
 obtain ⟨kk,tx,tc,ts⟩:=t
 intro w B g o A cap rs m d ok hok hN hB ⟨hm0,hm1⟩ ⟨hd0,hd1⟩
 have HNA:=hid hN
 have HOK:=hid hok
 obtain ⟨⟨c0,c1,c2,c3⟩,hg,htx,hcap,hmax,hrd,hls⟩:=hN
 simp only [Tree.kind,Tree.text,Tree.cols,Tree.kids] at *
 have hlen:ts.length≤9223372036854775807:=by unfold maxLen at hmax;omega
 have HCN:Hid (countS (.mk kk tx tc ts) = 1 + countsS ts):=by show _ = _;rw [countS]
 have HM:Hid (0≤m∧m + countS (.mk kk tx tc ts)≤1000000):=⟨hm0,hm1⟩
 have HSTEP:Hid (plN P (.mk kk tx tc ts) d m ok = if 1000 < m + 1∨24 < d then (zeroT,m + 1,false)
  else (.mk kk (if (placeS (.mk kk tx tc ts)).2 then xT else tx) tc (plNs P ts (d + 1) (m + 1) (if (placeS (.mk kk tx tc ts)).2 then ok && decide ((placeS (.mk kk tx tc ts)).1≤P) else ok)).1,
   (plNs P ts (d + 1) (m + 1) (if (placeS (.mk kk tx tc ts)).2 then ok && decide ((placeS (.mk kk tx tc ts)).1≤P) else ok)).2)):=by show _ = _;rw [plN]
 obtain ⟨W0,hW0⟩:∃ W0,w.alloc (.cells #[.int .i64 0,.string ⟨#[]⟩,.int .i64 0,.slice none 0 0] 31) = W0:=⟨_,rfl⟩
 have HK0:Hid (Kept (fun k=>k = B) w W0):=by show Kept _ _ _;rw [← hW0];exact Kept.of_below (blA _ _) _
 have HB0:Hid (HasObj W0 B (.cells #[.int .i64 P,.int .i64 m,.bool ok] 63)):=by show HasObj _ _ _;rw [← hW0];exact hB.al _
 have HZ0:Hid (HasObj W0 w.heap.size (.cells #[.int .i64 0,.string ⟨#[]⟩,.int .i64 0,.slice none 0 0] 31)):=by show HasObj _ _ _;rw [← hW0];exact HasObj.at0 _ _
 have HBW:Hid (B < w.heap.size):=hB.lt
 obtain ⟨W1,hW1⟩:∃ W1,W0.setCell ⟨B,1,none⟩ (.int .i64 (m + 1)) = W1:=⟨_,rfl⟩
 have HK1:Hid (Kept (fun k=>k = B) w W1):=by show Kept _ _ _;rw [← hW1];exact HK0.out.trans' (Kept.set _ ⟨B,1,none⟩ _)
 have HB1:Hid (HasObj W1 B (.cells #[.int .i64 P,.int .i64 (m + 1),.bool ok] 63)):=by show HasObj _ _ _;rw [← hW1];exact HB0.out.set (i:=1) _
 have HZ1:Hid (HasObj W1 w.heap.size (.cells #[.int .i64 0,.string ⟨#[]⟩,.int .i64 0,.slice none 0 0] 31)):=by show HasObj _ _ _;rw [← hW1];exact HZ0.out.far (i:=1) _ (by have:=HBW.out;omega)
 have k1:=HB0.out.cell 1
 have k1f:=HB0.out.free 1
 simp only [List.getElem?_toArray,List.getElem?_cons_zero,List.getElem?_cons_succ] at k1
 have v1:IntKind.i64.wrap (m + 1) = m + 1:=by have:=HM.out;exact IntWalk.i64_in _ (by omega)
 have HIH:=hid ih
 clear hok hB hrd hls ih c0 c1 c2 c3 hm0 hm1
 by_cases h1:1000 < m + 1∨24 < d
 ·have HF:=hid (HSTEP.out.trans (if_pos h1))
  clear HSTEP
  generalize plN P (.mk kk tx tc ts) d m ok = RES at *
  obtain ⟨b1,hb1⟩:∃ b1,decide (1000 < m + 1) = b1:=⟨_,rfl⟩
  obtain ⟨b2,hb2⟩:∃ b2,decide (24 < d) = b2:=⟨_,rfl⟩
  have HD:Hid (b1 = true∨b2 = true):=by show _∨_;rw [← hb1,← hb2];simpa using h1
  have k2:=HB1.out.cell 1
  have k3:=HB1.out.cell 2
  have k3f:=HB1.out.free 2
  simp only [List.getElem?_toArray,List.getElem?_cons_zero,List.getElem?_cons_succ] at k2 k3
  obtain ⟨W2,hW2⟩:∃ W2,W1.setCell ⟨B,2,none⟩ (.bool false) = W2:=⟨_,rfl⟩
  have HK2:Hid (Kept (fun k=>k = B) w W2):=by show Kept _ _ _;rw [← hW2];exact HK1.out.trans' (Kept.set _ ⟨B,2,none⟩ _)
  have HB2:Hid (HasObj W2 B (.cells #[.int .i64 P,.int .i64 (m + 1),.bool false] 63)):=by show HasObj _ _ _;rw [← hW2];exact HB1.out.set (i:=2) _
  have HZ2:Hid (HasObj W2 w.heap.size (.cells #[.int .i64 0,.string ⟨#[]⟩,.int .i64 0,.slice none 0 0] 31)):=by show HasObj _ _ _;rw [← hW2];exact HZ1.out.far (i:=2) _ (by have:=HBW.out;omega)
  clear h1 HNA HIH HOK HM
  cases b1
  ·cases b2
   ·exact absurd HD.out (by simp)
   go_enter Try.func29,Try.ntmps29
   go_wp2_with (first
    | (refine sR 31 6 30 HZ2.out ?_)
    | fail)
   refine bodyPost_ret (v:=.agg #[.int .i64 0,.string ⟨#[]⟩,.int .i64 0,.slice none 0 0]) (results_cell_row Try.results29 _ _ w.heap.size 31 _ (0,0) _ rfl (HZ2.out.row _) Try.underlying31 rfl (by kernel_rfl)) rfl ?_
   rw [HF.out]
   exact ⟨_,rfl,SliceR.nil_ 0 (Nat.zero_le _) none,HK2.out.next (Kept.setRow _ _ _) (fun k hk e=>by omega),HB2.out.farRow _ (by have:=HBW.out;omega)⟩
  ·go_enter Try.func29,Try.ntmps29
   go_wp2_with (first
    | (refine sR 31 6 30 HZ2.out ?_)
    | fail)
   refine bodyPost_ret (v:=.agg #[.int .i64 0,.string ⟨#[]⟩,.int .i64 0,.slice none 0 0]) (results_cell_row Try.results29 _ _ w.heap.size 31 _ (0,0) _ rfl (HZ2.out.row _) Try.underlying31 rfl (by kernel_rfl)) rfl ?_
   rw [HF.out]
   exact ⟨_,rfl,SliceR.nil_ 0 (Nat.zero_le _) none,HK2.out.next (Kept.setRow _ _ _) (fun k hk e=>by omega),HB2.out.farRow _ (by have:=HBW.out;omega)⟩
 have HF:=hid (HSTEP.out.trans (if_neg h1))
 have d1:decide (1000 < m + 1) = false:=by simp;omega
 have d2:decide (24 < d) = false:=by simp;omega
 have HD:Hid (d≤24∧m + 1≤1000):=⟨by omega,by omega⟩
 have CPL:Hid (∀ W,Below B w W→Calls Try.prog 31 #[.pointer (some ⟨g,o,none⟩)] W fun e w'=>e = .returned (.tuple #[.int .i64 (placeS (.mk kk tx tc ts)).1,.bool (placeS (.mk kk tx tc ts)).2])∧W = w'):=fun W hW=>by
  obtain ⟨⟨q0,q1,q2,q3⟩,_⟩:=HNA.out.below hW
  exact place_any kk tc tx ts g o ts.length A cap W htx rfl (by omega) q0 q1 q2 q3
 obtain ⟨RES,hRES⟩:∃ RES,plN P (.mk kk tx tc ts) d m ok = RES:=⟨_,rfl⟩
 rw [hRES] at HF ⊢
 generalize placeS (.mk kk tx tc ts) = PQ at *
 obtain ⟨pk,pp⟩:=PQ
 simp only at HF CPL
 obtain ⟨ok1,hok1⟩:∃ ok1,(if pp then ok && decide (pk≤P) else ok) = ok1:=⟨_,rfl⟩
 obtain ⟨sx,hsx⟩:∃ sx,(if pp then xT else tx) = sx:=⟨_,rfl⟩
 rw [hok1,hsx] at HF
 have HOK1:=hid hok1
 have HSX:=hid hsx
 obtain ⟨⟨c0,c1,c2,c3⟩,_⟩:=HNA.out.below (HK1.out.below (B:=B) (Nat.le_of_lt HBW.out) (fun k e=>e ▸ Nat.le_refl _))
 simp only [Tree.kind,Tree.text,Tree.cols,Tree.kids] at c0 c1 c2 c3
 have hg1:g < W1.heap.size:=Nat.lt_of_lt_of_le (Nat.lt_trans hg HBW.out) HK1.out.size
 have c0a:∀ o',(W1.alloc o').cell? ⟨g,o,none⟩ = some (.int .i64 kk):=fun o'=>((blA W1 o').cell (p:=⟨g,o,none⟩) hg1).trans c0
 have c1a:∀ o',(W1.alloc o').cell? ⟨g,o + 1,none⟩ = some (.string tx):=fun o'=>((blA W1 o').cell (p:=⟨g,o + 1,none⟩) hg1).trans c1
 have c2a:∀ o',(W1.alloc o').cell? ⟨g,o + 2,none⟩ = some (.int .i64 tc):=fun o'=>((blA W1 o').cell (p:=⟨g,o + 2,none⟩) hg1).trans c2
 have hgB:g < B:=hg
 have k2:=HB1.out.cell 1
 simp only [List.getElem?_toArray,List.getElem?_cons_zero,List.getElem?_cons_succ] at k2
 clear h1 hRES hok1 hsx HSTEP HB0 HZ0 HK0
 go_enter Try.func29,Try.ntmps29
 go_upto_region 5 with fail
 go_region
 obtain ⟨W5,hW5⟩:∃ W5,(W1.alloc (.cells #[.int .i64 kk,.string tx,.int .i64 tc,.slice none 0 0] 31)).drew = W5:=⟨_,rfl⟩
 rw [hW5]
 have hb5:Below W1.heap.size W1 W5:=by rw [← hW5];exact Below.drew (blA _ _)
 have HK5:=hid (HK1.out.trans' (Kept.of_below hb5 _))
 have HB5:=hid (HB1.out.below hb5)
 have HZ5:=hid (HZ1.out.below hb5)
 have HGM5:Hid (HasObj W5 W1.heap.size (.cells #[.int .i64 kk,.string tx,.int .i64 tc,.slice none 0 0] 31)):=by show HasObj _ _ _;rw [← hW5];exact (HasObj.at0 _ _).dr
 have HGS:Hid (w.heap.size < W1.heap.size):=HZ1.out.lt
 generalize W1.heap.size = gm at *
 clear hW5 hb5 hW1 hW0 c0 c1 c2 c3 c0a c1a c2a k1 k1f k2 v1 d1 d2 HB1 HZ1 HK1
 have HBM:Hid (B < gm):=Nat.lt_trans HBW.out HGS.out
 go_wp2_with fail
 refine (CPL.out _ (HK5.out.below (B:=B) (Nat.le_of_lt HBW.out) (fun k e=>e ▸ Nat.le_refl _))).mono ?_
 rintro e w6 ⟨rfl,rfl⟩
 have k0:=HB5.out.cell 0
 have k2:=HB5.out.cell 2
 have k2f:=HB5.out.free 2
 have g1:=HGM5.out.cell 1
 have g1f:=HGM5.out.free 1
 simp only [List.getElem?_toArray,List.getElem?_cons_zero,List.getElem?_cons_succ] at k0 k2 g1
 go_upto_if 49 with fail
 go_cut [9] from 50 to 65 (fun _ wx=>Kept (fun k=>k = B) w wx∧HasObj wx B (.cells #[.int .i64 P,.int .i64 (m + 1),.bool ok1] 63)∧HasObj wx gm (.cells #[.int .i64 kk,.string sx,.int .i64 tc,.slice none 0 0] 31)∧HasObj wx w.heap.size (.cells #[.int .i64 0,.string ⟨#[]⟩,.int .i64 0,.slice none 0 0] 31))
 case first =>
  have h1:=HOK1.out
  have h2:=HSX.out
  cases pp
  ·simp only [Bool.false_eq_true,if_false] at h1 h2
   subst h1 h2
   go_wp2_with fail
   go_meet
   exact ⟨HK5.out,HB5.out,HGM5.out,HZ5.out⟩
  ·simp only [if_true] at h1 h2
   subst h2
   have k0a:(W5.setCell ⟨gm,1,none⟩ (.string ⟨#[120]⟩)).cell? ⟨B,0,none⟩ = some (.int .i64 P):=(World.cell?_setCell_far _ _ _ _ (by show gm≠B;have:=HBM.out;omega)).trans k0
   have k2a:(W5.setCell ⟨gm,1,none⟩ (.string ⟨#[120]⟩)).cell? ⟨B,2,none⟩ = some (.bool ok):=(World.cell?_setCell_far _ _ _ _ (by show gm≠B;have:=HBM.out;omega)).trans k2
   obtain ⟨W6,hW6⟩:∃ W6,(W5.setCell ⟨gm,1,none⟩ (.string ⟨#[120]⟩)) = W6:=⟨_,rfl⟩
   have HB6:Hid (HasObj W6 B (.cells #[.int .i64 P,.int .i64 (m + 1),.bool ok] 63)):=by show HasObj _ _ _;rw [← hW6];exact HB5.out.far (i:=1) _ (Nat.ne_of_lt HBM.out)
   have HG6:Hid (HasObj W6 gm (.cells #[.int .i64 kk,.string xT,.int .i64 tc,.slice none 0 0] 31)):=by show HasObj _ _ _;rw [← hW6];exact HGM5.out.set (i:=1) _
   have HZ6:Hid (HasObj W6 w.heap.size (.cells #[.int .i64 0,.string ⟨#[]⟩,.int .i64 0,.slice none 0 0] 31)):=by show HasObj _ _ _;rw [← hW6];exact HZ5.out.far (i:=1) _ (Nat.ne_of_lt HGS.out)
   have HK6:Hid (Kept (fun k=>k = B) w W6):=by show Kept _ _ _;rw [← hW6];exact HK5.out.next (Kept.set _ ⟨gm,1,none⟩ _) (fun k hk e=>by have:=HGS.out;have h9:k = gm:=e;omega)
   rw [hW6] at k0a k2a
   have k2b:=HB6.out.free 2
   clear k0 k2 k2f
   obtain ⟨bp,hbp⟩:∃ bp,decide (pk≤P) = bp:=⟨_,rfl⟩
   rw [hbp] at h1
   have H1:=hid h1
   clear h1
   cases ok
   all_goals
    go_wp2_with fail
    go_meet
    have h1:=H1.out
    simp only [Bool.false_and,Bool.true_and] at h1
    subst h1
    exact ⟨HK6.out.trans' (Kept.set _ ⟨B,2,none⟩ _),HB6.out.set (i:=2) _,HG6.out.far (i:=2) _ (Nat.ne_of_gt HBM.out),HZ6.out.far (i:=2) _ (Nat.ne_of_gt HBW.out)⟩
 case rest =>
 obtain ⟨hkc,hbc,hgc,hzc⟩:=hcut
 have HKc:=hid hkc
 have HBc:=hid hbc
 have HGc:=hid hgc
 have HZc:=hid hzc
 have HGLc:=hid (Nat.succ_le_of_lt hgc.lt)
 have c3:=(HNA.out.below (hkc.below (B:=B) (Nat.le_of_lt HBW.out) (fun k e=>e ▸ Nat.le_refl _))).1.2.2.2
 simp only [Tree.kids] at c3
 clear hkc hbc hgc hzc HK5 HB5 HZ5 HGM5 CPL k0 k2 k2f g1 g1f HOK1 HSX
 go_wp2_with fail
 go_loopw [71] (fun i wr=>Kept (fun k=>k = B) w wr∧∃ (k:Nat) (L:List Tree) (mk:Int) (okk:Bool) (v:Value),k≤ts.length∧i = .int .i64 k∧plNs P (ts.take k) (d + 1) (m + 1) ok1 = (L,mk,okk)∧HasObj wr B (.cells #[.int .i64 P,.int .i64 mk,.bool okk] 63)∧HasObj wr gm (.cells #[.int .i64 kk,.string sx,.int .i64 tc,v] 31)∧HasObj wr w.heap.size (.cells #[.int .i64 0,.string ⟨#[]⟩,.int .i64 0,.slice none 0 0] 31)∧OwnTrees wr (gm + 1) L v) (fun i _=>ts.length - (intOf i).toNat)
 case atStart=>exact ⟨HKc.out,0,[],m + 1,ok1,.slice none 0 0,Nat.zero_le _,rfl,by simp [plNs],HBc.out,HGc.out,HZc.out,OwnTrees.nil _ _⟩
 case round =>
 obtain ⟨hkr,k,L,mk,okk,v,hk,rfl,hacc,hbr,hgr,hzr,hor⟩:=hrel
 obtain ⟨Av,cv,rfl⟩:=hor.form
 have HKR:=hid hkr
 have HACC:=hid hacc
 have HBR:=hid hbr
 have HGR:=hid hgr
 have HZR:=hid hzr
 have HOW:=hid hor
 have HNR:=hid (HNA.out.below (hkr.below (B:=B) (Nat.le_of_lt HBW.out) (fun k e=>e ▸ Nat.le_refl _)))
 have b2:=hbr.cell 2
 simp only [List.getElem?_toArray,List.getElem?_cons_zero,List.getElem?_cons_succ] at b2
 clear hkr hacc hbr hgr hzr hor c3
 by_cases hlt:k < ts.length
 ·have i0:(k:Int) < (ts.length:Int):=by omega
  cases okk
  case false =>
   have hst:=plNs_stop P ts k (d + 1) (m + 1) ok1 (by rw [HACC.out])
   have HRES:Hid (RES = (.mk kk sx tc L,mk,false)):=by show _ = _;rw [HF.out,hst,HACC.out]
   clear hst
   go_wp2_with (first
    | (refine lR 31 7 HGR.out Try.underlying31 ?_)
    | (refine sR 31 6 79 HZR.out ?_)
    | fail)
   refine bodyPost_ret (v:=.agg #[.int .i64 kk,.string sx,.int .i64 tc,.slice Av L.length cv]) (results_cell_row Try.results29 _ _ w.heap.size 31 _ (0,0) _ rfl (HZR.out.row _) Try.underlying31 rfl (by kernel_rfl)) rfl ?_
   rw [HRES.out]
   exact ⟨_,rfl,SliceR.keep HOW.out.rows (fun p hp=>World.cell?_of_block (setRow_other _ _ _ _ (by have h9:=hp.1;have:=HGS.out;omega))) (fun q hq=>⟨by have h9:=hq.1;have:=HGS.out;omega,by have h9:=hq.2;rw [size_setRow];exact h9⟩),HKR.out.next (Kept.setRow _ _ _) (fun k hk e=>by omega),HBR.out.farRow _ (Nat.ne_of_lt HBW.out)⟩
  case true =>
   have HTK:=hid (plNs_take P ts k (d + 1) (m + 1) ok1 hlt (by rw [HACC.out]))
   obtain ⟨_,_,_,_,_,hrd,hls⟩:=HNR.out
   obtain ⟨g',o',A',cap',rs',rfl,hg',e0,e1,e2,e3,h64,h64',hts,hc5,hc6,hrd',hls'⟩:=trees_at hrd hls hlt
   have HKN:Hid (NodeOk ts[k]∧NodeAt wr (Lt B) g' (o' + k * 4) ts[k] A' cap' rs'):=⟨⟨h64,h64',hts⟩,⟨e0,e1,e2,e3⟩,hg',hts,hc5,hc6,hrd',hls'⟩
   have hmem:ts[k] ∈ ts:=List.getElem_mem hlt
   have hcn:=plNs_cnt P (ts.take k) (d + 1) (m + 1) ok1
   rw [HACC.out] at hcn
   have hct:=countsS_take hlt
   have hcle:=countsS_take_le ts (k + 1)
   have HCM:Hid (0≤mk∧mk + countS ts[k]≤1000000):=by show _∧_;have:=HM.out;have:=HCN.out;simp only at hcn;omega
   have HAL:Hid (L.length≤100000000):=by
    have h9:=plNs_len P (ts.take k) (d + 1) (m + 1) ok1
    rw [HACC.out] at h9
    simp only [List.length_take] at h9
    have:=countsS_take_le ts k
    have:=countsS_len ts
    have:=HM.out;have:=HCN.out
    show _≤_;omega
   have HXO:=hid (plN_ok64 P ts[k] (d + 1) mk true HKN.out.1)
   have HCC:Hid (Calls Try.prog 29 #[.pointer (some ⟨B,0,none⟩),.pointer (some ⟨g',o' + k * 4,none⟩),.int .i64 (d + 1)] wr.drew (PlP B wr.drew P (plN P ts[k] (d + 1) mk true))) :=
    HIH.out ts[k] hmem wr.drew B g' (o' + k * 4) A' cap' rs' mk (d + 1) true HKN.out.1 (HKN.out.2.below ⟨rfl,rfl,rfl,Nat.le_refl _,fun _ _=>rfl⟩) HBR.out.dr HCM.out (by have:=HD.out;omega)
   have HTK2:Hid (plNs P (ts.take (k + 1)) (d + 1) (m + 1) ok1 = (L ++ [(plN P ts[k] (d + 1) mk true).1],(plN P ts[k] (d + 1) mk true).2)):=by show _ = _;rw [HTK.out,HACC.out]
   have HKC:Hid (Kept (fun k=>k = B∨gm < k) wr wr.drew):=hid (Kept.of_below (Below.drew (Below.refl _ _)) _)
   have HGMF:Hid (∀ W,Kept (fun k=>k = B∨gm < k) wr W→HasObj W gm (.cells #[.int .i64 kk,.string sx,.int .i64 tc,.slice Av L.length cv] 31)):=fun W hW=>hW.obj HGR.out (by have:=HBM.out;omega)
   have KC:Hid (∀ W,Kept (fun k=>k = B∨gm≤k) wr W→W.cell? ⟨g,o + 3,none⟩ = some (.slice (some ⟨g',o',none⟩) ts.length cap)):=fun W hW=>(hW.cell (p:=⟨g,o + 3,none⟩) (Nat.lt_of_lt_of_le (Nat.lt_trans hgB HBW.out) HKR.out.size) (by have:=HBM.out;show ¬ (g = B∨gm≤g);omega)).trans HNR.out.1.2.2.2
   have HOLT:Hid (∀ k,(Value.slice Av L.length cv).ownBlock = some k→k < wr.heap.size):=fun k hk=>(HOW.out.own_lt k hk).2
   have HGL:Hid (gm + 1≤wr.heap.size):=HGR.out.lt
   have HKN2:=hid (HKR.out.size)
   clear hrd hls hrd' hls' e0 e1 e2 e3 h64 h64' hts hc5 hc6 hcn hct hcle HTK HIH
   obtain ⟨X9,hX9⟩:∃ X9,plN P ts[k] (d + 1) mk true = X9:=⟨_,rfl⟩
   rw [hX9] at HCC HTK2 HXO
   obtain ⟨x,mx,okx⟩:=X9
   simp only at HTK2 HXO
   unfold PlP at HCC
   simp only at HCC
   have v3:IntKind.i64.wrap (d + 1) = d + 1:=by have:=HD.out;exact IntWalk.i64_in _ (by omega)
   have i1:(0:Int)≤(k:Int):=by omega
   clear hX9 hmem HNR
   go_upto_region 15 with fail
   refine wp_region_noPanic ?_
   refine wp_region_held_drew (S:=fun w'=>Kept (fun k=>k = B∨gm≤k) wr w') (by kernel_rfl) (HKC.out.mono (fun _ _ e=>e.imp id Nat.le_of_lt)) (fun hHeld=>?_)
   refine tk 0 80 rfl ?_
   refine tk 2 82 rfl ?_
   refine tk 3 83 rfl ?_
   refine tk 4 84 rfl ?_
   refine tk 5 85 rfl ?_
   refine tk 6 86 rfl ?_ (hy:=Or.inl ⟨by rfl,fun W hS=>by have h:=KC.out W hS;clear hS;go_simp;try with_reducible rfl⟩)
   refine tk 7 87 rfl ?_
   refine tk 8 88 rfl ?_
   refine tk 9 89 rfl ?_
   refine tk 10 90 rfl ?_
   refine rn [1,11] (rc (some 81) rfl (fun K hK=>?_) (rc (some 91) rfl (fun K hK=>?_) AllReadyH.nil))
   have y3:=(HGMF.out _ HKC.out).cell 3
   simp only [List.getElem?_toArray,List.getElem?_cons_zero,List.getElem?_cons_succ] at y3
   go_simp
   clear y3
   refine hK.out _ _ ((HKC.out.mono (fun _ _ e=>e.imp id Nat.le_of_lt))) (fun hHeld=>?_)
   clear hK K
   refine r1 11 (some 91) rfl (fun K hK=>?_)
   go_simp
   refine Calls.mono HCC.out ?_
   rintro e wk ⟨vk,rfl,hvk,hkk,hpk⟩
   have HKC:=hid (HKC.out.trans' (hkk.mono (fun _ _ e=>.inl e)))
   have HPK:=hid hpk
   have HOW2:=hid (HOW.out.kept (w':=wk) (N:=fun k=>k = B) ⟨hkk.os,hkk.tape,hkk.output,hkk.size,hkk.block⟩ (fun k hk e=>by have:=HBM.out;omega))
   have HVK:=hid hvk
   have HSZ:Hid (wr.heap.size≤wk.heap.size):=hkk.size
   clear hvk hkk hpk
   refine hK.out _ _ ((HKC.out.mono (fun _ _ e=>e.imp id Nat.le_of_lt))) (fun hHeld=>?_)
   clear hK K
   refine r1 12 (some 92) rfl (fun K hK=>?_)
   go_simp
   have HN8:=hid (HasObj.at0 wk (.cells #[.int .i64 x.kind,.string x.text,.int .i64 x.cols,vk] 31))
   have HKC:=hid (HKC.out.al (.cells #[.int .i64 x.kind,.string x.text,.int .i64 x.cols,vk] 31))
   have HOW3:=hid (HOW2.out.below (blA wk (.cells #[.int .i64 x.kind,.string x.text,.int .i64 x.cols,vk] 31)))
   have HPA:=hid (HPK.out.al (.cells #[.int .i64 x.kind,.string x.text,.int .i64 x.cols,vk] 31))
   have HRX:Hid (treeE.R (wk.alloc (.cells #[.int .i64 x.kind,.string x.text,.int .i64 x.cols,vk] 31)) (FreshIn (gm + 1) (wk.alloc (.cells #[.int .i64 x.kind,.string x.text,.int .i64 x.cols,vk] 31)) (.slice Av L.length cv)) x [.int .i64 x.kind,.string x.text,.int .i64 x.cols,vk]):=treeR_mk.2 ⟨vk,rfl,HXO.out.1,HXO.out.2.1,HXO.out.2.2,HVK.out.keep (fun p hp=>(blA wk _).cell hp.2) (fun k hk=>⟨by have:=HGL.out;have h9:wr.heap.size≤k:=hk.1;omega,by have h9:=hk.2;simp;omega,fun e=>by have h9:wr.heap.size≤k:=hk.1;have:=HOLT.out k e.symm;omega⟩)⟩
   generalize hwa:wk.alloc (.cells #[.int .i64 x.kind,.string x.text,.int .i64 x.cols,vk] 31) = wa at *
   have HWS:Hid (wk.heap.size < wa.heap.size):=by show _ < _;rw [← hwa];simp
   clear hwa
   refine hK.out _ _ ((HKC.out.mono (fun _ _ e=>e.imp id Nat.le_of_lt))) (fun hHeld=>?_)
   clear hK K
   refine r1 13 (some 93) rfl (fun K hK=>?_)
   refine stepO rfl (.tmp 81) (.tmp 92) (by rfl) (by rfl) HOW3.out (by rfl) HN8.out HRX.out HAL.out (by have:=HGL.out;have:=HSZ.out;have:=HWS.out;omega) ?_
   intro v3 w3 ho3 hb3 hs3
   obtain ⟨A9,n9,c9,e9⟩:∃ A n c,v3 = .slice A n c:=by obtain ⟨A,c,e⟩:=ho3.form;exact ⟨A,_,c,e⟩
   subst e9
   have HO3:=hid ho3
   have HG3:=hid ((HGMF.out _ HKC.out).belowB hb3 (Nat.lt_succ_self _))
   have HP3:=hid (HPA.out.belowB hb3 (Nat.lt_succ_of_lt HBM.out))
   have HKC:=hid (HKC.out.trans' (Kept.of_belowB hb3 hs3 (fun k hk=>.inr hk)))
   clear ho3 hb3 hs3
   refine hK.out _ _ ((HKC.out.mono (fun _ _ e=>e.imp id Nat.le_of_lt))) (fun hHeld=>?_)
   clear hK K
   refine tk 14 94 rfl ?_
   rotate_left
   go_simp
   refine Calls.mono HCC.out ?_
   rintro e wk ⟨vk,rfl,hvk,hkk,hpk⟩
   have HKC:=hid (HKC.out.trans' (hkk.mono (fun _ _ e=>.inl e)))
   have HPK:=hid hpk
   have HOW2:=hid (HOW.out.kept (w':=wk) (N:=fun k=>k = B) ⟨hkk.os,hkk.tape,hkk.output,hkk.size,hkk.block⟩ (fun k hk e=>by have:=HBM.out;omega))
   have HVK:=hid hvk
   have HSZ:Hid (wr.heap.size≤wk.heap.size):=hkk.size
   clear hvk hkk hpk
   refine hK.out _ _ ((HKC.out.mono (fun _ _ e=>e.imp id Nat.le_of_lt))) (fun hHeld=>?_)
   clear hK K
   refine rn [1,12] (rc (some 81) rfl (fun K hK=>?_) (rc (some 92) rfl (fun K hK=>?_) AllReadyH.nil))
   have y3:=(HGMF.out _ HKC.out).cell 3
   simp only [List.getElem?_toArray,List.getElem?_cons_zero,List.getElem?_cons_succ] at y3
   go_simp
   clear y3
   refine hK.out _ _ ((HKC.out.mono (fun _ _ e=>e.imp id Nat.le_of_lt))) (fun hHeld=>?_)
   clear hK K
   refine r1 12 (some 92) rfl (fun K hK=>?_)
   go_simp
   have HN8:=hid (HasObj.at0 wk (.cells #[.int .i64 x.kind,.string x.text,.int .i64 x.cols,vk] 31))
   have HKC:=hid (HKC.out.al (.cells #[.int .i64 x.kind,.string x.text,.int .i64 x.cols,vk] 31))
   have HOW3:=hid (HOW2.out.below (blA wk (.cells #[.int .i64 x.kind,.string x.text,.int .i64 x.cols,vk] 31)))
   have HPA:=hid (HPK.out.al (.cells #[.int .i64 x.kind,.string x.text,.int .i64 x.cols,vk] 31))
   have HRX:Hid (treeE.R (wk.alloc (.cells #[.int .i64 x.kind,.string x.text,.int .i64 x.cols,vk] 31)) (FreshIn (gm + 1) (wk.alloc (.cells #[.int .i64 x.kind,.string x.text,.int .i64 x.cols,vk] 31)) (.slice Av L.length cv)) x [.int .i64 x.kind,.string x.text,.int .i64 x.cols,vk]):=treeR_mk.2 ⟨vk,rfl,HXO.out.1,HXO.out.2.1,HXO.out.2.2,HVK.out.keep (fun p hp=>(blA wk _).cell hp.2) (fun k hk=>⟨by have:=HGL.out;have h9:wr.heap.size≤k:=hk.1;omega,by have h9:=hk.2;simp;omega,fun e=>by have h9:wr.heap.size≤k:=hk.1;have:=HOLT.out k e.symm;omega⟩)⟩
   generalize hwa:wk.alloc (.cells #[.int .i64 x.kind,.string x.text,.int .i64 x.cols,vk] 31) = wa at *
   have HWS:Hid (wk.heap.size < wa.heap.size):=by show _ < _;rw [← hwa];simp
   clear hwa
   refine hK.out _ _ ((HKC.out.mono (fun _ _ e=>e.imp id Nat.le_of_lt))) (fun hHeld=>?_)
   clear hK K
   refine r1 13 (some 93) rfl (fun K hK=>?_)
   refine stepO rfl (.tmp 81) (.tmp 92) (by rfl) (by rfl) HOW3.out (by rfl) HN8.out HRX.out HAL.out (by have:=HGL.out;have:=HSZ.out;have:=HWS.out;omega) ?_
   intro v3 w3 ho3 hb3 hs3
   obtain ⟨A9,n9,c9,e9⟩:∃ A n c,v3 = .slice A n c:=by obtain ⟨A,c,e⟩:=ho3.form;exact ⟨A,_,c,e⟩
   subst e9
   have HO3:=hid ho3
   have HG3:=hid ((HGMF.out _ HKC.out).belowB hb3 (Nat.lt_succ_self _))
   have HP3:=hid (HPA.out.belowB hb3 (Nat.lt_succ_of_lt HBM.out))
   have HKC:=hid (HKC.out.trans' (Kept.of_belowB hb3 hs3 (fun k hk=>.inr hk)))
   clear ho3 hb3 hs3
   refine hK.out _ _ ((HKC.out.mono (fun _ _ e=>e.imp id Nat.le_of_lt))) (fun hHeld=>?_)
   clear hK K
   refine tk 14 94 rfl ?_
   rotate_left
   go_simp
   have HN8:=hid (HasObj.at0 wk (.cells #[.int .i64 x.kind,.string x.text,.int .i64 x.cols,vk] 31))
   have HKC:=hid (HKC.out.al (.cells #[.int .i64 x.kind,.string x.text,.int .i64 x.cols,vk] 31))
   have HOW3:=hid (HOW2.out.below (blA wk (.cells #[.int .i64 x.kind,.string x.text,.int .i64 x.cols,vk] 31)))
   have HPA:=hid (HPK.out.al (.cells #[.int .i64 x.kind,.string x.text,.int .i64 x.cols,vk] 31))
   have HRX:Hid (treeE.R (wk.alloc (.cells #[.int .i64 x.kind,.string x.text,.int .i64 x.cols,vk] 31)) (FreshIn (gm + 1) (wk.alloc (.cells #[.int .i64 x.kind,.string x.text,.int .i64 x.cols,vk] 31)) (.slice Av L.length cv)) x [.int .i64 x.kind,.string x.text,.int .i64 x.cols,vk]):=treeR_mk.2 ⟨vk,rfl,HXO.out.1,HXO.out.2.1,HXO.out.2.2,HVK.out.keep (fun p hp=>(blA wk _).cell hp.2) (fun k hk=>⟨by have:=HGL.out;have h9:wr.heap.size≤k:=hk.1;omega,by have h9:=hk.2;simp;omega,fun e=>by have h9:wr.heap.size≤k:=hk.1;have:=HOLT.out k e.symm;omega⟩)⟩
   generalize hwa:wk.alloc (.cells #[.int .i64 x.kind,.string x.text,.int .i64 x.cols,vk] 31) = wa at *
   have HWS:Hid (wk.heap.size < wa.heap.size):=by show _ < _;rw [← hwa];simp
   clear hwa
   refine hK.out _ _ ((HKC.out.mono (fun _ _ e=>e.imp id Nat.le_of_lt))) (fun hHeld=>?_)
   clear hK K
   refine r1 1 (some 81) rfl (fun K hK=>?_)
   have y3:=(HGMF.out _ HKC.out).cell 3
   simp only [List.getElem?_toArray,List.getElem?_cons_zero,List.getElem?_cons_succ] at y3
   go_simp
   clear y3
   refine hK.out _ _ ((HKC.out.mono (fun _ _ e=>e.imp id Nat.le_of_lt))) (fun hHeld=>?_)
   clear hK K
   refine r1 13 (some 93) rfl (fun K hK=>?_)
   refine stepO rfl (.tmp 81) (.tmp 92) (by rfl) (by rfl) HOW3.out (by rfl) HN8.out HRX.out HAL.out (by have:=HGL.out;have:=HSZ.out;have:=HWS.out;omega) ?_
   intro v3 w3 ho3 hb3 hs3
   obtain ⟨A9,n9,c9,e9⟩:∃ A n c,v3 = .slice A n c:=by obtain ⟨A,c,e⟩:=ho3.form;exact ⟨A,_,c,e⟩
   subst e9
   have HO3:=hid ho3
   have HG3:=hid ((HGMF.out _ HKC.out).belowB hb3 (Nat.lt_succ_self _))
   have HP3:=hid (HPA.out.belowB hb3 (Nat.lt_succ_of_lt HBM.out))
   have HKC:=hid (HKC.out.trans' (Kept.of_belowB hb3 hs3 (fun k hk=>.inr hk)))
   clear ho3 hb3 hs3
   refine hK.out _ _ ((HKC.out.mono (fun _ _ e=>e.imp id Nat.le_of_lt))) (fun hHeld=>?_)
   clear hK K
   refine tk 14 94 rfl ?_
   rotate_left
   all_goals
    refine r1 15 none rfl (fun K hK=>?_)
    have y3:=HG3.out.cell 3
    have f3:=HG3.out.free 3
    simp only [List.getElem?_toArray,List.getElem?_cons_zero,List.getElem?_cons_succ] at y3
    go_simp
    generalize hW:World.setCell _ _ _ = W4
    have hkb:Kept (fun k=>k = gm) w3 W4:=by rw [← hW];exact Kept.set _ ⟨gm,3,none⟩ _
    have HG4:Hid (HasObj W4 gm (.cells #[.int .i64 kk,.string sx,.int .i64 tc,.slice A9 n9 c9] 31)):=by show HasObj _ _ _;rw [← hW];exact HG3.out.set (i:=3) _
    have HK4:=hid ((HKC.out.mono (fun _ _ e=>e.imp id Nat.le_of_lt)).trans' (hkb.mono (fun k _ e=>.inr (e ▸ Nat.le_refl _))))
    have HP4:=hid (hkb.obj HP3.out (Nat.ne_of_lt HBM.out))
    have HO4:=hid (HO3.out.kept hkb (fun k hk e=>by omega))
    clear hW hkb y3 f3
    refine hK.out _ _ (HK4.out) (fun hHeld=>?_)
    clear hK K
    try simp only [Act.put,List.setIfInBounds_toArray,List.set_cons_zero,List.set_cons_succ]
    refine wpAnyH_done (by kernel_rfl) ?_ _
    refine NoPanic.normal ?_
   all_goals
    clear v3
    go_wp2_with fail
    go_roundw
    case rel=>exact ⟨HKR.out.next HK4.out (fun k hk e=>e.elim id (fun e=>by have:=HGS.out;omega)),k + 1,L ++ [x],mx,okx,_,by omega,by go_num,HTK2.out,HP4.out,HG4.out,HK4.out.obj HZR.out (by have:=HBW.out;have:=HGS.out;omega),HO4.out⟩
    case measure=>simp [intOf];omega
 ·have HT:ts.take k = ts:=List.take_of_length_le (by omega)
  have hac:=HACC.out
  rw [HT] at hac
  have HRES:Hid (RES = (.mk kk sx tc L,mk,okk)):=by show _ = _;rw [HF.out,hac]
  have i0:¬ (k:Int) < (ts.length:Int):=by omega
  clear hac
  go_wp2_with (first
   | (refine lR 31 7 HGR.out Try.underlying31 ?_)
   | (refine sR 31 6 96 HZR.out ?_)
   | fail)
  refine bodyPost_ret (v:=.agg #[.int .i64 kk,.string sx,.int .i64 tc,.slice Av L.length cv]) (results_cell_row Try.results29 _ _ w.heap.size 31 _ (0,0) _ rfl (HZR.out.row _) Try.underlying31 rfl (by kernel_rfl)) rfl ?_
  rw [HRES.out]
  exact ⟨_,rfl,SliceR.keep HOW.out.rows (fun p hp=>World.cell?_of_block (setRow_other _ _ _ _ (by have h9:=hp.1;have:=HGS.out;omega))) (fun q hq=>⟨by have h9:=hq.1;have:=HGS.out;omega,by have h9:=hq.2;rw [size_setRow];exact h9⟩),HKR.out.next (Kept.setRow _ _ _) (fun k hk e=>by omega),HBR.out.farRow _ (Nat.ne_of_lt HBW.out)⟩
end Go.Proofs.Ythpngeboknmllaa
