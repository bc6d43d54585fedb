/- Texts put together. -/
import Derived.Test.YthpngeboknmllaaQ2925dd3ad5
import Derived.Test.YthpngeboknmllaaQ380b24acad
import Derived.Test.YthpngeboknmllaaQc0c7d34a6d
import Derived.Deep.RegionHeld3
import Derived.IntWalk
set_option linter.unusedVariables false
set_option linter.unusedSimpArgs false
set_option maxRecDepth 100000
namespace Go.Proofs.Ythpngeboknmllaa
open Go.RowKit
mutual
def okS:Tree→Int→Int→Bool
 | .mk k s c ts,m,d=>decide (m + 1≤1000) && (decide (d≤24) && ((textS k s && kidsS k c ts.length) && oksS k ts (m + 1) (d + 1)))
def oksS (k:Int):List Tree→Int→Int→Bool
 | [],_,_=>true
 | t :: ts,m,d=>!((t.kind == 1) == (k == 1)) && (okS t m d && oksS k ts (m + countS t) d)
end
theorem oksS_drop (k m d:Int) {ts:List Tree} {i:Nat} (h:i < ts.length) :
  oksS k (ts.drop i) (m + (countsS (ts.take i):Nat)) d = (!((ts[i].kind == 1) == (k == 1)) && (okS ts[i] (m + (countsS (ts.take i):Nat)) d && oksS k (ts.drop (i + 1)) (m + (countsS (ts.take (i + 1)):Nat)) d)):=by
 rw [List.drop_eq_getElem_cons h,oksS,countsS_take h,show m + ((countsS (ts.take i) + countS ts[i]:Nat):Int) = m + (countsS (ts.take i):Nat) + countS ts[i] by omega]
mutual
theorem okS_eq : (t : Tree) → (m d : Int) → okS t m d = (formS t && (decide (m + countS t ≤ 1000) && decide (d + depthS t ≤ 25)))
  | .mk k s c ts, m, d => by
    rw [okS, oksS_eq k ts (m + 1) (d + 1), formS, countS, depthS, Bool.eq_iff_iff]
    simp only [Bool.and_eq_true, decide_eq_true_eq]
    constructor
    · rintro ⟨h1, h2, h3, h4, h5⟩
      refine ⟨⟨h3, h4⟩, ?_⟩
      rcases h5 with rfl | h5
      · simp only [countsS, depthsS]; omega
      · omega
    · rintro ⟨⟨h3, h4⟩, h5, h6⟩
      refine ⟨by omega, by omega, h3, h4, ?_⟩
      rcases ts with _ | ⟨t, ts⟩
      · exact .inl rfl
      · exact .inr (by omega)
theorem oksS_eq (k : Int) : (ts : List Tree) → (m d : Int) → oksS k ts m d = (formsS k ts && decide (ts = [] ∨ (m + countsS ts ≤ 1000 ∧ d + depthsS ts ≤ 25)))
  | [], m, d => by rw [oksS, formsS]; simp
  | t :: ts, m, d => by
    rw [oksS, okS_eq t m d, oksS_eq k ts (m + countS t) d, formsS_cons, countsS, depthsS, Bool.eq_iff_iff]
    simp only [Bool.and_eq_true, decide_eq_true_eq, reduceCtorEq, false_or]
    constructor
    · rintro ⟨h1, ⟨h2, h3, h4⟩, h5, h6⟩
      refine ⟨⟨⟨h1, h2⟩, h5⟩, ?_⟩
      rcases h6 with rfl | h6
      · simp only [countsS, depthsS]; omega
      · omega
    · rintro ⟨⟨⟨h1, h2⟩, h5⟩, h3, h4⟩
      exact ⟨h1, ⟨h2, by omega, by omega⟩, h5, .inr (by omega)⟩
end
def NodeAt (w:World) (S:Nat→Prop) (g o:Nat) (t:Tree) (A:Option Addr) (cap:Nat) (rs:List Value):Prop :=
 (w.cell? ⟨g,o,none⟩ = some (.int .i64 t.kind)∧w.cell? ⟨g,o + 1,none⟩ = some (.string t.text)∧w.cell? ⟨g,o + 2,none⟩ = some (.int .i64 t.cols)∧w.cell? ⟨g,o + 3,none⟩ = some (.slice A t.kids.length cap)) ∧
  S g∧t.text.size≤maxLen∧t.kids.length≤cap∧cap≤maxLen∧Reads w S A rs∧ListR treeE w S t.kids rs
theorem NodeAt.below {w w':World} {B g o:Nat} {t:Tree} {A:Option Addr} {cap:Nat} {rs:List Value} (h:NodeAt w (Lt B) g o t A cap rs) (hb:Below B w w'):NodeAt w' (Lt B) g o t A cap rs:=by
 obtain ⟨⟨h0,h1,h2,h3⟩,hg,h4,h5,h6,h7,h8⟩:=h
 have hc:=(bcell hb).1
 exact ⟨⟨(hc _ _ hg).trans h0,(hc _ _ hg).trans h1,(hc _ _ hg).trans h2,(hc _ _ hg).trans h3⟩,hg,h4,h5,h6,h7.keep (Same.of_below hb (Nat.le_refl _)) (fun _ h=>h),h8.keep (Same.of_below hb (Nat.le_refl _)) (fun _ h=>h)⟩
def Chk (w:World) (B:Nat) (m:Int):Prop:=Cells w B∧w.cell? ⟨B,39,none⟩ = some (.int .i64 m)∧w.frozen? ⟨B,39,none⟩ = false
theorem cell_other {w:World} {B i j:Nat} {v:Value} (h:i≠j):(w.setCell ⟨B,i,none⟩ v).cell? ⟨B,j,none⟩ = w.cell? ⟨B,j,none⟩:=by
 have o:(⟨B,i,none⟩:Addr)≠⟨B,j,none⟩:=fun e=>h (by injection e)
 rw [World.cell?_setCell_other (h:=o)]
theorem Chk.set {w:World} {B:Nat} {m:Int} (h:Chk w B m) (m':Int):Chk (w.setCell ⟨B,39,none⟩ (.int .i64 m')) B m':=by
 obtain ⟨hc,h1,h2⟩:=h
 refine ⟨?_,World.cell?_setCell_same _ _ _ h1,by rw [World.frozen?_setCell];exact h2⟩
 unfold Cells at *
 simp only [cell_other (show (39:Nat)≠4 by decide),cell_other (show (39:Nat)≠5 by decide),cell_other (show (39:Nat)≠7 by decide),cell_other (show (39:Nat)≠8 by decide),cell_other (show (39:Nat)≠10 by decide),cell_other (show (39:Nat)≠11 by decide),
  cell_other (show (39:Nat)≠13 by decide),cell_other (show (39:Nat)≠14 by decide),cell_other (show (39:Nat)≠16 by decide),cell_other (show (39:Nat)≠17 by decide),cell_other (show (39:Nat)≠19 by decide),cell_other (show (39:Nat)≠20 by decide),
  cell_other (show (39:Nat)≠22 by decide),cell_other (show (39:Nat)≠23 by decide),cell_other (show (39:Nat)≠25 by decide),cell_other (show (39:Nat)≠26 by decide),cell_other (show (39:Nat)≠28 by decide),cell_other (show (39:Nat)≠29 by decide),
  cell_other (show (39:Nat)≠31 by decide),cell_other (show (39:Nat)≠32 by decide),cell_other (show (39:Nat)≠34 by decide),cell_other (show (39:Nat)≠35 by decide),cell_other (show (39:Nat)≠37 by decide),cell_other (show (39:Nat)≠38 by decide)]
 exact hc
theorem Chk.drew {w:World} {B:Nat} {m:Int} (h:Chk w B m) (n:Nat):Chk (w.drewN n) B m:=h
def ChkPost (B:Nat) (w:World) (t:Tree) (m d:Int) (e:Ending) (w':World):Prop :=
 e = .returned (.bool (okS t m d))∧Below B w w'∧(okS t m d = true→Chk w' B (m + countS t))
set_option maxHeartbeats 4000000 in
theorem chk_any (t:Tree):∀ (w:World) (B g o:Nat) (A:Option Addr) (cap:Nat) (rs:List Value) (m d:Int) (_:NodeAt w (Lt B) g o t A cap rs) (_:Chk w B m) (_:0≤m∧m≤1000) (_:0≤d∧d≤1000),
  Calls Try.prog 43 #[.pointer (some ⟨B,0,none⟩),.pointer (some ⟨g,o,none⟩),.int .i64 d] w (ChkPost B w t m d):=by
 induction t using Tree.ind with
 | h t ih =>
 obtain ⟨tk,tx,tc,ts⟩:=t
 intro w B g o A cap rs m d hN hC ⟨hm0,hm1⟩ ⟨hd0,hd1⟩
 have HNA:=hid hN
 obtain ⟨⟨c0,c1,c2,c3⟩,hg,htx,hcap,hmax,hrd,hls⟩:=hN
 simp only [Tree.kind,Tree.text,Tree.cols,Tree.kids] at *
 have hlen:ts.length≤9223372036854775807:=by unfold maxLen at hmax;omega
 have HS:Hid (okS (.mk tk tx tc ts) m d = (decide (m + 1≤1000) && (decide (d≤24) && ((textS tk tx && kidsS tk tc ts.length) && oksS tk ts (m + 1) (d + 1))))):=by show _ = _;rw [okS]
 have HCN:Hid (countS (.mk tk tx tc ts) = 1 + countsS ts):=by show _ = _;rw [countS]
 have HB1:Hid (Below B w (w.setCell ⟨B,39,none⟩ (.int .i64 (m + 1)))):=by show Below _ _ _;exact (Below.refl B w).setCell (p:=⟨B,39,none⟩) (Nat.le_refl _) _
 have HC1:=hid (hC.set (m + 1))
 have k39:=hC.2.1
 have f39:=hC.2.2
 have HIH:=hid ih
 clear hC hrd hls ih
 by_cases h1:m + 1≤1000
 rotate_left
 ·have d1:decide (1000 < m + 1) = true:=by simp;omega
  have HF:Hid (okS (.mk tk tx tc ts) m d = false):=by show _ = _;rw [HS.out,decide_eq_false h1];rfl
  go_enter Try.func43,Try.ntmps43
  go_wp2_with fail
  go_ret
  refine ⟨by rw [HF.out];rfl,HB1.out,fun h=>?_⟩
  rw [HF.out] at h;cases h
 have d1:decide (1000 < m + 1) = false:=by simp;omega
 by_cases h2:d≤24
 rotate_left
 ·have d2:decide (24 < d) = true:=by simp;omega
  have HF:Hid (okS (.mk tk tx tc ts) m d = false):=by show _ = _;rw [HS.out,decide_eq_false h2];simp
  go_enter Try.func43,Try.ntmps43
  go_wp2_with fail
  go_ret
  refine ⟨by rw [HF.out];rfl,HB1.out,fun h=>?_⟩
  rw [HF.out] at h;cases h
 have d2:decide (24 < d) = false:=by simp;omega
 have HO:Hid (Calls Try.prog 54 #[.pointer (some ⟨B,0,none⟩),.pointer (some ⟨g,o,none⟩)] (w.setCell ⟨B,39,none⟩ (.int .i64 (m + 1))) fun e w'=>e = .returned (.bool (textS tk tx && kidsS tk tc ts.length))∧∃ n,w' = (w.setCell ⟨B,39,none⟩ (.int .i64 (m + 1))).drewN n):=by
  obtain ⟨⟨q0,q1,q2,q3⟩,_⟩:=HNA.out.below HB1.out
  exact own_any tk tc tx A ts.length cap B g o _ (by omega) htx q0 q1 q2 q3 HC1.out.1
 have HS2:Hid (okS (.mk tk tx tc ts) m d = ((textS tk tx && kidsS tk tc ts.length) && oksS tk ts (m + 1) (d + 1))):=by show _ = _;rw [HS.out,decide_eq_true h1,decide_eq_true h2];rfl
 generalize (textS tk tx && kidsS tk tc ts.length) = b at *
 clear HS
 cases b
 ·have HF:Hid (okS (.mk tk tx tc ts) m d = false):=by show _ = _;rw [HS2.out];rfl
  go_enter Try.func43,Try.ntmps43
  go_wp2_with fail
  refine HO.out.mono ?_
  rintro e w1 ⟨rfl,n1,rfl⟩
  have HB2:Hid (Below B w ((w.setCell ⟨B,39,none⟩ (.int .i64 (m + 1))).drewN n1)):=HB1.out.trans ⟨rfl,rfl,rfl,Nat.le_refl _,fun _ _=>rfl⟩
  go_wp2_with fail
  go_ret
  refine ⟨by rw [HF.out];rfl,HB2.out,fun h=>?_⟩
  rw [HF.out] at h;cases h
 ·have HS3:Hid (okS (.mk tk tx tc ts) m d = oksS tk ts (m + 1) (d + 1)):=by show _ = _;rw [HS2.out];rfl
  go_enter Try.func43,Try.ntmps43
  go_wp2_with fail
  refine HO.out.mono ?_
  rintro e w1 ⟨rfl,n1,hw1⟩
  have HB2:Hid (Below B w w1):=by rw [hw1];exact HB1.out.trans ⟨rfl,rfl,rfl,Nat.le_refl _,fun _ _=>rfl⟩
  have HC2:Hid (Chk w1 B (m + 1)):=by rw [hw1];exact HC1.out.drew n1
  have c3':=(HNA.out.below HB2.out).1.2.2.2
  simp only [Tree.kids] at c3'
  clear hw1 HO HC1 HB1 c0 c1 c2 c3 k39 f39 d1 d2 HS2
  go_wp2_with fail
  go_loopw [35] (fun i wr=>Below B w wr∧∃ (k:Nat),k≤ts.length∧i = .int .i64 k∧Chk wr B (m + 1 + (countsS (ts.take k):Nat))∧m + 1 + (countsS (ts.take k):Nat)≤1000∧oksS tk (ts.drop k) (m + 1 + (countsS (ts.take k):Nat)) (d + 1) = oksS tk ts (m + 1) (d + 1)) (fun i _=>ts.length - (intOf i).toNat)
  case atStart=>exact ⟨HB2.out,0,Nat.zero_le _,rfl,by simpa [countsS] using HC2.out,by simp [countsS];omega,by simp [countsS]⟩
  case round =>
   obtain ⟨hb,k,hk,rfl,hck,hle,hrest⟩:=hrel
   have HR:=hid hrest
   have HB:=hid hb
   have HCK:=hid hck
   obtain ⟨⟨c0,c1,c2,c3⟩,_,_,_,_,hrd,hls⟩:=HNA.out.below hb
   simp only [Tree.kind,Tree.text,Tree.cols,Tree.kids] at c0 c1 c2 c3 hls
   clear hrest hb hck c3'
   by_cases hlt:k < ts.length
   ·obtain ⟨g',o',A',cap',rs',rfl,hg',e0,e1,e2,e3,_,_,hts,hc5,hc6,hrd',hls'⟩:=trees_at hrd hls hlt
    have HK:Hid (NodeAt wr (Lt B) g' (o' + k * 4) ts[k] A' cap' rs'):=⟨⟨e0,e1,e2,e3⟩,hg',hts,hc5,hc6,hrd',hls'⟩
    have hmem:ts[k] ∈ ts:=List.getElem_mem hlt
    have HT:=hid (oksS_drop tk (m + 1) (d + 1) hlt)
    have i0:(k:Int) < (ts.length:Int):=by omega
    have HM:Hid (0≤m + 1 + (countsS (ts.take k):Nat)∧m + 1 + (countsS (ts.take k):Nat)≤1000):=by show _∧_;omega
    have HCO:Hid (m + 1 + ((countsS (ts.take (k + 1)):Nat):Int) = m + 1 + (countsS (ts.take k):Nat) + countS ts[k]):=by show _ = _;rw [countsS_take hlt];omega
    generalize hmm:m + 1 + ((countsS (ts.take k):Nat):Int) = M at *
    have HCC:Hid (Calls Try.prog 43 #[.pointer (some ⟨B,0,none⟩),.pointer (some ⟨g',o' + k * 4,none⟩),.int .i64 (d + 1)] wr.drew (ChkPost B wr.drew ts[k] M (d + 1))) :=
     HIH.out ts[k] hmem wr.drew B g' (o' + k * 4) A' cap' rs' M (d + 1) (HK.out.below ⟨rfl,rfl,rfl,Nat.le_refl _,fun _ _=>rfl⟩) (HCK.out.drew 1) HM.out (by omega)
    have KW:Hid (∀ W,Below B wr W→(W.cell? ⟨g,o,none⟩ = some (.int .i64 tk)∧W.cell? ⟨g,o + 3,none⟩ = some (.slice (some ⟨g',o',none⟩) ts.length cap)∧W.cell? ⟨g',o' + k * 4,none⟩ = some (.int .i64 ts[k].kind))):=by
     intro W hW
     have h:=(bcell hW).1
     exact ⟨(h _ _ hg).trans c0,(h _ _ hg).trans c3,(h _ _ hg').trans e0⟩
    have HOK1:Hid (okS ts[k] M (d + 1) = true→M + countS ts[k]≤1000):=fun h=>by
     rw [okS_eq] at h
     simp only [Bool.and_eq_true,decide_eq_true_eq] at h
     exact h.2.1
    have hgB:g < B:=hg
    have hgB':g' < B:=hg'
    clear hrd hls hrd' hls' hc5 hc6 hts hle HIH hmm c1 c2 e1 e2 e3
    cases hq1:(ts[k].kind == 1) <;> cases hq2:(tk == 1)
    case false.false | true.true =>
     rw [hq1,hq2] at HT
     have HF:Hid (okS (.mk tk tx tc ts) m d = false):=by show _ = _;rw [HS3.out,← HR.out,HT.out];rfl
     go_wp2_with fail
     go_quiet (fail)
     go_wp2_with fail
     go_ret
     refine ⟨by rw [HF.out];rfl,by first | exact HB.out | exact HB.out.trans ⟨rfl,rfl,rfl,Nat.le_refl _,fun _ _=>rfl⟩,fun h=>?_⟩
     rw [HF.out] at h;cases h
    all_goals
     rw [hq1,hq2] at HT
     generalize hb3:okS ts[k] M (d + 1) = b3 at *
     unfold ChkPost at HCC
     rw [hb3] at HCC
     clear hb3
     cases b3
     ·have HF:Hid (okS (.mk tk tx tc ts) m d = false):=by show _ = _;rw [HS3.out,← HR.out,HT.out];rfl
      have wd:IntKind.i64.wrap (d + 1) = d + 1:=IntWalk.i64_in _ (by omega)
      go_wp2_with fail
      go_region_held3 (fun w'=>w'.cell? ⟨g,o,none⟩ = some (.int .i64 tk)∧w'.cell? ⟨g,o + 3,none⟩ = some (.slice (some ⟨g',o',none⟩) ts.length cap)∧w'.cell? ⟨g',o' + k * 4,none⟩ = some (.int .i64 ts[k].kind)) (go_keep) (first
       | (go_at_call 43;with_reducible refine HCC.out.mono ?_;rintro e w3 ⟨rfl,hb3,_⟩;obtain ⟨p1,p2,p3⟩:=KW.out w3 (below_drew_of hb3);have HP:=hid (HB.out.trans (below_drew_of hb3));clear hb3))
      clear wd
      go_wp2_with fail
      go_ret
      refine ⟨by rw [HF.out];rfl,HP.out,fun h=>?_⟩
      rw [HF.out] at h;cases h
     ·have HF:Hid (oksS tk (ts.drop (k + 1)) (m + 1 + (countsS (ts.take (k + 1)):Nat)) (d + 1) = oksS tk ts (m + 1) (d + 1)):=by show _ = _;rw [← HR.out,HT.out];rfl
      have wd:IntKind.i64.wrap (d + 1) = d + 1:=IntWalk.i64_in _ (by omega)
      go_wp2_with fail
      go_region_held3 (fun w'=>w'.cell? ⟨g,o,none⟩ = some (.int .i64 tk)∧w'.cell? ⟨g,o + 3,none⟩ = some (.slice (some ⟨g',o',none⟩) ts.length cap)∧w'.cell? ⟨g',o' + k * 4,none⟩ = some (.int .i64 ts[k].kind)) (go_keep) (first
       | (go_at_call 43;with_reducible refine HCC.out.mono ?_;rintro e w3 ⟨rfl,hb3,hck3⟩;obtain ⟨p1,p2,p3⟩:=KW.out w3 (below_drew_of hb3);have HP:=hid (HB.out.trans (below_drew_of hb3));have HCK3:=hid (hck3 trivial);clear hb3 hck3))
      clear wd
      go_wp2_with fail
      go_roundw
      case rel=>exact ⟨HP.out,k + 1,by omega,by go_num,by rw [HCO.out];exact HCK3.out,by rw [HCO.out];exact HOK1.out trivial,HF.out⟩
      case measure=>simp [intOf];omega
   ·have HT:Hid (ts.take k = ts):=List.take_of_length_le (by omega)
    have HF:Hid (okS (.mk tk tx tc ts) m d = true):=by show _ = _;rw [HS3.out,← HR.out,List.drop_of_length_le (by omega),oksS]
    rw [HT.out] at HCK
    clear hrd hls c0 c1 c2 c3
    go_wp2_with fail
    go_ret
    refine ⟨by rw [HF.out];rfl,HB.out,fun _=>?_⟩
    rw [HCN.out,show m + ((1 + countsS ts:Nat):Int) = m + 1 + (countsS ts:Nat) by omega]
    exact HCK.out
end Go.Proofs.Ythpngeboknmllaa
