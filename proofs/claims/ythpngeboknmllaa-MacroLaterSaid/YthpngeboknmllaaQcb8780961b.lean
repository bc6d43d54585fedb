/- Texts put together. -/
import Derived.Test.YthpngeboknmllaaQf30ca507da
import Derived.Test.YthpngeboknmllaaQ8d95b9e1b9
import Derived.Test.YthpngeboknmllaaQ2bb3fbb373
set_option linter.unusedVariables false
set_option linter.unusedSimpArgs false
set_option maxRecDepth 100000
namespace Go.Proofs.Ythpngeboknmllaa
open Go.RowKit
def xxT:Tree:=.mk 2 ⟨#[120]⟩ 0 []
def oneT:Tree:=.mk 2 ⟨#[35,49]⟩ 0 []
theorem pl_x:placeS xxT = (0,false):=by decide +kernel
theorem pl_one:placeS oneT = (1,true):=by decide +kernel
theorem tx2:textS 2 ⟨#[120]⟩ = true:=by
 unfold textS
 decide +kernel
theorem tx3:textS 1 ⟨#[]⟩ = true:=by
 unfold textS
 decide +kernel
theorem fm2:formS (rowT [xxT,xxT]) = true:=by
 simp only [rowT,xxT,formS,formsS,tx3,tx2,List.length_cons,List.length_nil]
 decide +kernel
theorem fm3:formS (rowT [xxT,xxT,xxT]) = true:=by
 simp only [rowT,xxT,formS,formsS,tx3,tx2,List.length_cons,List.length_nil]
 decide +kernel
theorem vl2:validS (rowT [xxT,xxT]) = true:=by
 unfold validS
 rw [fm2]
 decide +kernel
theorem vl3:validS (rowT [xxT,xxT,xxT]) = true:=by
 unfold validS
 rw [fm3]
 decide +kernel
theorem tm1:tmplS (rowT [oneT,xxT]) 1 = true:=by
 unfold tmplS
 rw [show plN 1 (rowT [oneT,xxT]) 1 0 true = (rowT [xxT,xxT],3,true) from rfl]
 simp only [vl2];decide
theorem tm2:tmplS (rowT [xxT,xxT]) 4 = true:=by
 unfold tmplS
 rw [show plN 4 (rowT [xxT,xxT]) 1 0 true = (rowT [xxT,xxT],3,true) from rfl]
 simp only [vl2];decide
theorem tm3:tmplS (rowT [xxT,xxT,xxT]) 4 = true:=by
 unfold tmplS
 rw [show plN 4 (rowT [xxT,xxT,xxT]) 1 0 true = (rowT [xxT,xxT,xxT],4,true) from rfl]
 simp only [vl3];decide
theorem fl3:fillL [rowT [xxT,xxT]] (rowT [oneT,xxT]).kids = [xxT,xxT,xxT]:=by
 show fillL _ [.mk 2 ⟨#[35,49]⟩ 0 [],.mk 2 ⟨#[120]⟩ 0 []] = _
 rw [fillL,fillL,fillL]
 rw [show placeS (.mk 2 ⟨#[35,49]⟩ 0 []) = (1,true) from pl_one,show placeS (.mk 2 ⟨#[120]⟩ 0 []) = (0,false) from pl_x]
 simp [fillR,rowT,Tree.kids,xxT]
theorem awF19:fillF (rowT [oneT,xxT]) [rowT [xxT,xxT]] = (rowT [xxT,xxT,xxT],0):=by
 unfold fillF
 rw [fl3,tm3,show (([rowT [xxT,xxT]]:List Tree).length:Int) = 1 from rfl,tm1,show (([rowT [xxT,xxT]]:List Tree).all fun a=>tmplS a 4) = true by simp [tm2]]
 simp
theorem leaf19 (W:World) (S:Nat→Prop) (s:ByteArray) (h:s.size≤maxLen):treeE.R W S (.mk 2 s 0 []) [.int .i64 2,.string s,.int .i64 0,.slice none 0 0]:=treeR_mk.2 ⟨.slice none 0 0,rfl,by simp [In64,Tree.kind],by simp [In64,Tree.cols],h,SliceR.nil_ 0 (Nat.zero_le _) none⟩
theorem row_objT {X:World} {g:Nat} {ts:List Tree} {cs:List Value} {T:TypeId} (h:HasObj X g (.cells cs.toArray T)) (hl:ListR treeE X (Lt X.heap.size) ts cs) (hm:ts.length≤maxLen) (n:Nat) (hn:ts.length = n):SliceR treeE X (Lt X.heap.size) ts (.slice (some ⟨g,0,none⟩) n n):=by
 subst hn
 exact ⟨_,_,cs,rfl,Nat.le_refl _,hm,fun _=>⟨g,0,rfl,h.lt,fun j u hu=>by rw [Nat.zero_add];exact (h.cell j).trans (by simpa using hu)⟩,hl⟩
theorem row19:NodeOk (rowT [oneT,xxT]):=⟨by simp [In64,rowT,Tree.kind],by simp [In64,rowT,Tree.cols],Nat.zero_le _⟩
theorem cnt19:∀ a ∈ [rowT [xxT,xxT]],countS a≤1000000:=by
 intro a ha
 rw [List.mem_singleton.1 ha]
 decide +kernel
theorem sz1:(⟨#[120]⟩:ByteArray).size≤maxLen:=by show (1:Nat)≤maxLen;simp [maxLen]
theorem sz2:(⟨#[35,49]⟩:ByteArray).size≤maxLen:=by show (2:Nat)≤maxLen;simp [maxLen]
theorem fill19_any (A Aa:Option Addr) (c ca:Nat) (w:World) (hv:SliceR treeE w (Lt w.heap.size) [oneT,xxT] (.slice A 2 c)) (hva:SliceR treeE w (Lt w.heap.size) [rowT [xxT,xxT]] (.slice Aa 1 ca)) :
  Calls Try.prog 12 #[.agg #[.int .i64 1,.string ⟨#[]⟩,.int .i64 0,.slice A 2 c],.slice Aa 1 ca] w fun e w'=>∃ AF cF,∃ SF:Nat→Prop,e = .returned (.tuple #[.agg #[.int .i64 1,.string ⟨#[]⟩,.int .i64 0,.slice AF 3 cF],.int .i64 0])∧SliceR treeE w' SF [xxT,xxT,xxT] (.slice AF 3 cF)∧(∀ q,SF q→w.heap.size≤q∧q < w'.heap.size)∧Below w.heap.size w w':=by
 have h:=fillTop_any (rowT [oneT,xxT]) [rowT [xxT,xxT]] A Aa c ca w hv row19 (by decide +kernel) hva cnt19 (by simp)
 rw [awF19] at h
 refine Calls.mono h ?_
 rintro e w' ⟨v,rfl,hvf,hb,_,_⟩
 obtain ⟨AF,cF,rfl⟩:=hvf.form
 exact ⟨AF,cF,_,rfl,hvf,fun q hq=>hq,hb⟩
theorem put19 {K:Act→World→Prop} {a:Act} {wk:World} {g:Nat} {cs ds:Array Value} {T:TypeId} (h:HasObj wk g (.cells ds T)) (hk:∀ X,Hid (Kept (fun k=>k = g) wk X∧HasObj X g (.cells cs T))→K a X):K a (wk.setRow g cs):=hk _ ⟨Kept.setRow _ _ _,h.row _⟩
theorem aw19_q (A:Option Addr) (n c:Nat) (w:World):Calls Try.prog 11 #[.slice A n c] w fun e w'=>e = .returned (.agg #[.int .i64 1,.string ⟨#[]⟩,.int .i64 0,.slice A n c])∧Below w.heap.size w w':=by
 go_enter Try.func11,Try.ntmps11
 go_wp2
 exact bodyPost_ret (v:=.agg #[.int .i64 1,.string ⟨#[]⟩,.int .i64 0,.slice A n c]) (by simp [results,Try.results11,go_sem]) rfl ⟨rfl,blA _ _⟩
set_option maxHeartbeats 16000000 in
theorem awake19_any (w:World):Calls Try.prog 4 #[] w (BoolP w true):=by
 go_enter Try.func4,Try.ntmps4
 go_upto_region 3 with (first
  | (refine sR 31 2 6 ((HasObj.at0 w _).al _) ?_)
  | (refine sR 31 3 7 ((HasObj.at1 w _ _).farRow _ (Nat.succ_ne_self _)) ?_)
  | fail)
 generalize hV:World.setRow (World.setRow _ _ _) _ _ = V
 have hwv:Below w.heap.size w V:=by rw [← hV];exact below_setRowB (below_setRowB (blAlloc (blA _ _) _) (Nat.le_refl _) _) (Nat.le_succ _) _
 have HXV:Hid (HasObj V w.heap.size (.cells #[.int .i64 2,.string ⟨#[120]⟩,.int .i64 0,.slice none 0 0] 31)):=by show HasObj _ _ _;rw [← hV];exact (((HasObj.at0 w _).al _).row _).farRow _ (Nat.ne_of_lt (Nat.lt_succ_self _))
 have HOV:Hid (HasObj V (w.heap.size + 1) (.cells #[.int .i64 2,.string ⟨#[35,49]⟩,.int .i64 0,.slice none 0 0] 31)):=by show HasObj _ _ _;rw [← hV];exact ((HasObj.at1 w _ _).farRow _ (Nat.succ_ne_self _)).row _
 have HWV:=hid hwv
 clear hV hwv
 try simp only [qP,qN,qS,qZ,qC]
 go_cut [4,5] from 8 to 22 (fun a4 a5 wx=>∃ g4 AF cF,a4 = .pointer (some ⟨g4,0,none⟩)∧a5 = .int .i64 0∧HasObj wx g4 (.cells #[.int .i64 1,.string ⟨#[]⟩,.int .i64 0,.slice AF 3 cF] 31)∧SliceR treeE wx (Lt wx.heap.size) [xxT,xxT,xxT] (.slice AF 3 cF)∧Below V.heap.size V wx)
 case first =>
  have HB:=hid (Below.drew (Below.refl V.heap.size V))
  refine wp_region_noPanic ?_
  refine wp_region_held_drew (S:=fun w'=>Below V.heap.size V w') (by kernel_rfl) HB.out (fun hHeld=>?_)
  refine tk 0 9 rfl ?_
  refine tr 1 10 31 3 rfl (fun w hS=>HOV.out.below hS) Try.underlying31 ?_
  refine tr 2 11 31 2 rfl (fun w hS=>HXV.out.below hS) Try.underlying31 ?_
  refine tk 5 14 rfl ?_
  refine tr 6 15 31 2 rfl (fun w hS=>HXV.out.below hS) Try.underlying31 ?_
  refine tr 7 16 31 2 rfl (fun w hS=>HXV.out.below hS) Try.underlying31 ?_
  refine rn [3,8,15] (rc (some 12) rfl (fun K hK=>?_) (rc (some 17) rfl (fun K hK=>?_) (rc (some 4) rfl (fun K hK=>?_) AllReadyH.nil)))
  go_simp
  first | refine alcD (fun X hX=>?_) | refine alcN (fun X hX=>?_)
  have hx1:=hX.out.1
  have hxo:=hX.out.2.1
  try have HR12:=hid (HR12.out.below hx1 hx1.size)
  try have HR17:=hid (HR17.out.below hx1 hx1.size)
  try have HR19:=hid (HR19.out.below hx1 hx1.size)
  try have HRF:=hid (HRF.out.keep (fun p hp=>hx1.cell (HSF.out _ hp)) (fun _ h=>h))
  try have HSF:=hid (fun q hq=>Nat.lt_of_lt_of_le (HSF.out q hq) hx1.size)
  try have H4:=hid (H4.out.below hx1)
  have HR12:=hid (row_objT (ts:=[oneT,xxT]) hxo (ListR.append (ListR.single (E:=treeE) (leaf19 X _ ⟨#[35,49]⟩ sz2)) (ListR.single (E:=treeE) (leaf19 X _ ⟨#[120]⟩ sz1))) (by simp [maxLen]) 2 rfl)
  first | have HB:=hid (HB.out.trans (hx1.mono HB.out.size)) | have HB:=hid hx1
  clear hX hx1 hxo
  refine hK.out _ _ (HB.out) (fun hHeld=>?_)
  clear hK K
  refine rn [4,8,15] (rc (some 13) rfl (fun K hK=>?_) (rc (some 17) rfl (fun K hK=>?_) (rc (some 4) rfl (fun K hK=>?_) AllReadyH.nil)))
  go_simp
  refine Calls.mono (aw19_q _ _ _ _) ?_
  rintro e X ⟨rfl,hx1⟩
  try have HR12:=hid (HR12.out.below hx1 hx1.size)
  try have HR17:=hid (HR17.out.below hx1 hx1.size)
  try have HR19:=hid (HR19.out.below hx1 hx1.size)
  try have HRF:=hid (HRF.out.keep (fun p hp=>hx1.cell (HSF.out _ hp)) (fun _ h=>h))
  try have HSF:=hid (fun q hq=>Nat.lt_of_lt_of_le (HSF.out q hq) hx1.size)
  try have H4:=hid (H4.out.below hx1)
  first | have HB:=hid (HB.out.trans (hx1.mono HB.out.size)) | have HB:=hid hx1
  clear hx1
  refine hK.out _ _ (HB.out) (fun hHeld=>?_)
  clear hK K
  refine rn [8,15] (rc (some 17) rfl (fun K hK=>?_) (rc (some 4) rfl (fun K hK=>?_) AllReadyH.nil))
  go_simp
  first | refine alcD (fun X hX=>?_) | refine alcN (fun X hX=>?_)
  have hx1:=hX.out.1
  have hxo:=hX.out.2.1
  try have HR12:=hid (HR12.out.below hx1 hx1.size)
  try have HR17:=hid (HR17.out.below hx1 hx1.size)
  try have HR19:=hid (HR19.out.below hx1 hx1.size)
  try have HRF:=hid (HRF.out.keep (fun p hp=>hx1.cell (HSF.out _ hp)) (fun _ h=>h))
  try have HSF:=hid (fun q hq=>Nat.lt_of_lt_of_le (HSF.out q hq) hx1.size)
  try have H4:=hid (H4.out.below hx1)
  have HR17:=hid (row_objT (ts:=[xxT,xxT]) hxo (ListR.append (ListR.single (E:=treeE) (leaf19 X _ ⟨#[120]⟩ sz1)) (ListR.single (E:=treeE) (leaf19 X _ ⟨#[120]⟩ sz1))) (by simp [maxLen]) 2 rfl)
  first | have HB:=hid (HB.out.trans (hx1.mono HB.out.size)) | have HB:=hid hx1
  clear hX hx1 hxo
  refine hK.out _ _ (HB.out) (fun hHeld=>?_)
  clear hK K
  refine rn [9,15] (rc (some 18) rfl (fun K hK=>?_) (rc (some 4) rfl (fun K hK=>?_) AllReadyH.nil))
  go_simp
  refine Calls.mono (aw19_q _ _ _ _) ?_
  rintro e X ⟨rfl,hx1⟩
  try have HR12:=hid (HR12.out.below hx1 hx1.size)
  try have HR17:=hid (HR17.out.below hx1 hx1.size)
  try have HR19:=hid (HR19.out.below hx1 hx1.size)
  try have HRF:=hid (HRF.out.keep (fun p hp=>hx1.cell (HSF.out _ hp)) (fun _ h=>h))
  try have HSF:=hid (fun q hq=>Nat.lt_of_lt_of_le (HSF.out q hq) hx1.size)
  try have H4:=hid (H4.out.below hx1)
  first | have HB:=hid (HB.out.trans (hx1.mono HB.out.size)) | have HB:=hid hx1
  clear hx1
  refine hK.out _ _ (HB.out) (fun hHeld=>?_)
  clear hK K
  refine rn [10,15] (rc (some 19) rfl (fun K hK=>?_) (rc (some 4) rfl (fun K hK=>?_) AllReadyH.nil))
  go_simp
  first | refine alcD (fun X hX=>?_) | refine alcN (fun X hX=>?_)
  have hx1:=hX.out.1
  have hxo:=hX.out.2.1
  try have HR12:=hid (HR12.out.below hx1 hx1.size)
  try have HR17:=hid (HR17.out.below hx1 hx1.size)
  try have HR19:=hid (HR19.out.below hx1 hx1.size)
  try have HRF:=hid (HRF.out.keep (fun p hp=>hx1.cell (HSF.out _ hp)) (fun _ h=>h))
  try have HSF:=hid (fun q hq=>Nat.lt_of_lt_of_le (HSF.out q hq) hx1.size)
  try have H4:=hid (H4.out.below hx1)
  have HR19:=hid (row_objT (ts:=[rowT [xxT,xxT]]) hxo (ListR.single (E:=treeE) (treeR_mk.2 ⟨_,rfl,by simp [In64,rowT,Tree.kind],by simp [In64,rowT,Tree.cols],Nat.zero_le _,HR17.out⟩)) (by simp [maxLen]) 1 rfl)
  first | have HB:=hid (HB.out.trans (hx1.mono HB.out.size)) | have HB:=hid hx1
  clear hX hx1 hxo
  refine hK.out _ _ (HB.out) (fun hHeld=>?_)
  clear hK K
  refine rn [11,15] (rc (some 20) rfl (fun K hK=>?_) (rc (some 4) rfl (fun K hK=>?_) AllReadyH.nil))
  go_simp
  refine Calls.mono (fill19_any _ _ _ _ _ HR12.out HR19.out) ?_
  rintro e X ⟨AF,cF,SF,rfl,hvf,hsf,hx1⟩
  try have H4l:=H4.out.lt
  try have HR12:=hid (HR12.out.below hx1 hx1.size)
  try have HR17:=hid (HR17.out.below hx1 hx1.size)
  try have HR19:=hid (HR19.out.below hx1 hx1.size)
  try have HRF:=hid (HRF.out.keep (fun p hp=>hx1.cell (HSF.out _ hp)) (fun _ h=>h))
  try have HSF:=hid (fun q hq=>Nat.lt_of_lt_of_le (HSF.out q hq) hx1.size)
  try have H4:=hid (H4.out.below hx1)
  have HRF:=hid hvf
  have HSF:=hid (fun q (hq:SF q)=>(hsf q hq).2)
  try have HNF:=hid (fun q (hq:SF q)=>Nat.ne_of_gt (Nat.lt_of_lt_of_le H4l (hsf q hq).1))
  first | have HB:=hid (HB.out.trans (hx1.mono HB.out.size)) | have HB:=hid hx1
  clear hvf hx1 hsf
  refine hK.out _ _ (HB.out) (fun hHeld=>?_)
  clear hK K
  refine tk 12 8 rfl ?_
  refine tk 13 21 rfl ?_
  refine tk 14 22 rfl ?_
  refine r1 15 (some 4) rfl (fun K hK=>?_)
  go_simp
  first | refine alcD (fun X hX=>?_) | refine alcN (fun X hX=>?_)
  have hx1:=hX.out.1
  have hxo:=hX.out.2.1
  try have HSF0:=HSF
  try have HR12:=hid (HR12.out.below hx1 hx1.size)
  try have HR17:=hid (HR17.out.below hx1 hx1.size)
  try have HR19:=hid (HR19.out.below hx1 hx1.size)
  try have HRF:=hid (HRF.out.keep (fun p hp=>hx1.cell (HSF.out _ hp)) (fun _ h=>h))
  try have HSF:=hid (fun q hq=>Nat.lt_of_lt_of_le (HSF.out q hq) hx1.size)
  try have H4:=hid (H4.out.below hx1)
  have H4:=hid hxo
  have HG4:=hid HB.out.size
  try have HNF:=hid (fun q (hq:SF q)=>Nat.ne_of_lt (HSF0.out q hq))
  first | have HB:=hid (HB.out.trans (hx1.mono HB.out.size)) | have HB:=hid hx1
  clear hX hx1 hxo
  refine hK.out _ _ (HB.out) (fun hHeld=>?_)
  clear hK K
  refine r1 16 none rfl (fun K hK=>?_)
  rw [if_pos (by rfl)]
  refine wp_store_row 31 (.tmp 4) (.tmp 21) rfl _ _ rfl rfl 31 _ H4.out (by kernel_rfl) (by simp) (by simp [Value.oneCell']) ?_
  refine put19 H4.out (fun X hX=>?_)
  have H4:=hid hX.out.2
  have HRF:=hid (hX.out.1.reads (S':=Lt X.heap.size) HRF.out (fun k hk=>⟨HSF.out k hk,HNF.out k hk⟩) (fun k hk=>Nat.lt_of_lt_of_le (HSF.out k hk) hX.out.1.size))
  have HB:=hid (HB.out.trans (hX.out.1.below HB.out.size (fun k e=>e ▸ HG4.out)))
  clear hX
  refine hK.out _ _ (HB.out) (fun hHeld=>?_)
  clear hK K
  refine tk 17 5 rfl ?_
  refine wpAnyH_done (by kernel_rfl) ?_ _
  refine NoPanic.normal ?_
  rotate_left
  go_simp
  first | refine alcD (fun X hX=>?_) | refine alcN (fun X hX=>?_)
  have hx1:=hX.out.1
  have hxo:=hX.out.2.1
  try have HSF0:=HSF
  try have HR12:=hid (HR12.out.below hx1 hx1.size)
  try have HR17:=hid (HR17.out.below hx1 hx1.size)
  try have HR19:=hid (HR19.out.below hx1 hx1.size)
  try have HRF:=hid (HRF.out.keep (fun p hp=>hx1.cell (HSF.out _ hp)) (fun _ h=>h))
  try have HSF:=hid (fun q hq=>Nat.lt_of_lt_of_le (HSF.out q hq) hx1.size)
  try have H4:=hid (H4.out.below hx1)
  have H4:=hid hxo
  have HG4:=hid HB.out.size
  try have HNF:=hid (fun q (hq:SF q)=>Nat.ne_of_lt (HSF0.out q hq))
  first | have HB:=hid (HB.out.trans (hx1.mono HB.out.size)) | have HB:=hid hx1
  clear hX hx1 hxo
  refine hK.out _ _ (HB.out) (fun hHeld=>?_)
  clear hK K
  refine r1 11 (some 20) rfl (fun K hK=>?_)
  go_simp
  refine Calls.mono (fill19_any _ _ _ _ _ HR12.out HR19.out) ?_
  rintro e X ⟨AF,cF,SF,rfl,hvf,hsf,hx1⟩
  try have H4l:=H4.out.lt
  try have HR12:=hid (HR12.out.below hx1 hx1.size)
  try have HR17:=hid (HR17.out.below hx1 hx1.size)
  try have HR19:=hid (HR19.out.below hx1 hx1.size)
  try have HRF:=hid (HRF.out.keep (fun p hp=>hx1.cell (HSF.out _ hp)) (fun _ h=>h))
  try have HSF:=hid (fun q hq=>Nat.lt_of_lt_of_le (HSF.out q hq) hx1.size)
  try have H4:=hid (H4.out.below hx1)
  have HRF:=hid hvf
  have HSF:=hid (fun q (hq:SF q)=>(hsf q hq).2)
  try have HNF:=hid (fun q (hq:SF q)=>Nat.ne_of_gt (Nat.lt_of_lt_of_le H4l (hsf q hq).1))
  first | have HB:=hid (HB.out.trans (hx1.mono HB.out.size)) | have HB:=hid hx1
  clear hvf hx1 hsf
  refine hK.out _ _ (HB.out) (fun hHeld=>?_)
  clear hK K
  refine tk 12 8 rfl ?_
  refine tk 13 21 rfl ?_
  refine tk 14 22 rfl ?_
  refine r1 16 none rfl (fun K hK=>?_)
  rw [if_pos (by rfl)]
  refine wp_store_row 31 (.tmp 4) (.tmp 21) rfl _ _ rfl rfl 31 _ H4.out (by kernel_rfl) (by simp) (by simp [Value.oneCell']) ?_
  refine put19 H4.out (fun X hX=>?_)
  have H4:=hid hX.out.2
  have HRF:=hid (hX.out.1.reads (S':=Lt X.heap.size) HRF.out (fun k hk=>⟨HSF.out k hk,HNF.out k hk⟩) (fun k hk=>Nat.lt_of_lt_of_le (HSF.out k hk) hX.out.1.size))
  have HB:=hid (HB.out.trans (hX.out.1.below HB.out.size (fun k e=>e ▸ HG4.out)))
  clear hX
  refine hK.out _ _ (HB.out) (fun hHeld=>?_)
  clear hK K
  refine tk 17 5 rfl ?_
  refine wpAnyH_done (by kernel_rfl) ?_ _
  refine NoPanic.normal ?_
  rotate_left
  go_simp
  first | refine alcD (fun X hX=>?_) | refine alcN (fun X hX=>?_)
  have hx1:=hX.out.1
  have hxo:=hX.out.2.1
  try have HSF0:=HSF
  try have HR12:=hid (HR12.out.below hx1 hx1.size)
  try have HR17:=hid (HR17.out.below hx1 hx1.size)
  try have HR19:=hid (HR19.out.below hx1 hx1.size)
  try have HRF:=hid (HRF.out.keep (fun p hp=>hx1.cell (HSF.out _ hp)) (fun _ h=>h))
  try have HSF:=hid (fun q hq=>Nat.lt_of_lt_of_le (HSF.out q hq) hx1.size)
  try have H4:=hid (H4.out.below hx1)
  have H4:=hid hxo
  have HG4:=hid HB.out.size
  try have HNF:=hid (fun q (hq:SF q)=>Nat.ne_of_lt (HSF0.out q hq))
  first | have HB:=hid (HB.out.trans (hx1.mono HB.out.size)) | have HB:=hid hx1
  clear hX hx1 hxo
  refine hK.out _ _ (HB.out) (fun hHeld=>?_)
  clear hK K
  refine r1 10 (some 19) rfl (fun K hK=>?_)
  go_simp
  first | refine alcD (fun X hX=>?_) | refine alcN (fun X hX=>?_)
  have hx1:=hX.out.1
  have hxo:=hX.out.2.1
  try have HR12:=hid (HR12.out.below hx1 hx1.size)
  try have HR17:=hid (HR17.out.below hx1 hx1.size)
  try have HR19:=hid (HR19.out.below hx1 hx1.size)
  try have HRF:=hid (HRF.out.keep (fun p hp=>hx1.cell (HSF.out _ hp)) (fun _ h=>h))
  try have HSF:=hid (fun q hq=>Nat.lt_of_lt_of_le (HSF.out q hq) hx1.size)
  try have H4:=hid (H4.out.below hx1)
  have HR19:=hid (row_objT (ts:=[rowT [xxT,xxT]]) hxo (ListR.single (E:=treeE) (treeR_mk.2 ⟨_,rfl,by simp [In64,rowT,Tree.kind],by simp [In64,rowT,Tree.cols],Nat.zero_le _,HR17.out⟩)) (by simp [maxLen]) 1 rfl)
  first | have HB:=hid (HB.out.trans (hx1.mono HB.out.size)) | have HB:=hid hx1
  clear hX hx1 hxo
  refine hK.out _ _ (HB.out) (fun hHeld=>?_)
  clear hK K
  refine r1 11 (some 20) rfl (fun K hK=>?_)
  go_simp
  refine Calls.mono (fill19_any _ _ _ _ _ HR12.out HR19.out) ?_
  rintro e X ⟨AF,cF,SF,rfl,hvf,hsf,hx1⟩
  try have H4l:=H4.out.lt
  try have HR12:=hid (HR12.out.below hx1 hx1.size)
  try have HR17:=hid (HR17.out.below hx1 hx1.size)
  try have HR19:=hid (HR19.out.below hx1 hx1.size)
  try have HRF:=hid (HRF.out.keep (fun p hp=>hx1.cell (HSF.out _ hp)) (fun _ h=>h))
  try have HSF:=hid (fun q hq=>Nat.lt_of_lt_of_le (HSF.out q hq) hx1.size)
  try have H4:=hid (H4.out.below hx1)
  have HRF:=hid hvf
  have HSF:=hid (fun q (hq:SF q)=>(hsf q hq).2)
  try have HNF:=hid (fun q (hq:SF q)=>Nat.ne_of_gt (Nat.lt_of_lt_of_le H4l (hsf q hq).1))
  first | have HB:=hid (HB.out.trans (hx1.mono HB.out.size)) | have HB:=hid hx1
  clear hvf hx1 hsf
  refine hK.out _ _ (HB.out) (fun hHeld=>?_)
  clear hK K
  refine tk 12 8 rfl ?_
  refine tk 13 21 rfl ?_
  refine tk 14 22 rfl ?_
  refine r1 16 none rfl (fun K hK=>?_)
  rw [if_pos (by rfl)]
  refine wp_store_row 31 (.tmp 4) (.tmp 21) rfl _ _ rfl rfl 31 _ H4.out (by kernel_rfl) (by simp) (by simp [Value.oneCell']) ?_
  refine put19 H4.out (fun X hX=>?_)
  have H4:=hid hX.out.2
  have HRF:=hid (hX.out.1.reads (S':=Lt X.heap.size) HRF.out (fun k hk=>⟨HSF.out k hk,HNF.out k hk⟩) (fun k hk=>Nat.lt_of_lt_of_le (HSF.out k hk) hX.out.1.size))
  have HB:=hid (HB.out.trans (hX.out.1.below HB.out.size (fun k e=>e ▸ HG4.out)))
  clear hX
  refine hK.out _ _ (HB.out) (fun hHeld=>?_)
  clear hK K
  refine tk 17 5 rfl ?_
  refine wpAnyH_done (by kernel_rfl) ?_ _
  refine NoPanic.normal ?_
  rotate_left
  go_simp
  first | refine alcD (fun X hX=>?_) | refine alcN (fun X hX=>?_)
  have hx1:=hX.out.1
  have hxo:=hX.out.2.1
  try have HSF0:=HSF
  try have HR12:=hid (HR12.out.below hx1 hx1.size)
  try have HR17:=hid (HR17.out.below hx1 hx1.size)
  try have HR19:=hid (HR19.out.below hx1 hx1.size)
  try have HRF:=hid (HRF.out.keep (fun p hp=>hx1.cell (HSF.out _ hp)) (fun _ h=>h))
  try have HSF:=hid (fun q hq=>Nat.lt_of_lt_of_le (HSF.out q hq) hx1.size)
  try have H4:=hid (H4.out.below hx1)
  have H4:=hid hxo
  have HG4:=hid HB.out.size
  try have HNF:=hid (fun q (hq:SF q)=>Nat.ne_of_lt (HSF0.out q hq))
  first | have HB:=hid (HB.out.trans (hx1.mono HB.out.size)) | have HB:=hid hx1
  clear hX hx1 hxo
  refine hK.out _ _ (HB.out) (fun hHeld=>?_)
  clear hK K
  refine r1 9 (some 18) rfl (fun K hK=>?_)
  go_simp
  refine Calls.mono (aw19_q _ _ _ _) ?_
  rintro e X ⟨rfl,hx1⟩
  try have HR12:=hid (HR12.out.below hx1 hx1.size)
  try have HR17:=hid (HR17.out.below hx1 hx1.size)
  try have HR19:=hid (HR19.out.below hx1 hx1.size)
  try have HRF:=hid (HRF.out.keep (fun p hp=>hx1.cell (HSF.out _ hp)) (fun _ h=>h))
  try have HSF:=hid (fun q hq=>Nat.lt_of_lt_of_le (HSF.out q hq) hx1.size)
  try have H4:=hid (H4.out.below hx1)
  first | have HB:=hid (HB.out.trans (hx1.mono HB.out.size)) | have HB:=hid hx1
  clear hx1
  refine hK.out _ _ (HB.out) (fun hHeld=>?_)
  clear hK K
  refine r1 10 (some 19) rfl (fun K hK=>?_)
  go_simp
  first | refine alcD (fun X hX=>?_) | refine alcN (fun X hX=>?_)
  have hx1:=hX.out.1
  have hxo:=hX.out.2.1
  try have HR12:=hid (HR12.out.below hx1 hx1.size)
  try have HR17:=hid (HR17.out.below hx1 hx1.size)
  try have HR19:=hid (HR19.out.below hx1 hx1.size)
  try have HRF:=hid (HRF.out.keep (fun p hp=>hx1.cell (HSF.out _ hp)) (fun _ h=>h))
  try have HSF:=hid (fun q hq=>Nat.lt_of_lt_of_le (HSF.out q hq) hx1.size)
  try have H4:=hid (H4.out.below hx1)
  have HR19:=hid (row_objT (ts:=[rowT [xxT,xxT]]) hxo (ListR.single (E:=treeE) (treeR_mk.2 ⟨_,rfl,by simp [In64,rowT,Tree.kind],by simp [In64,rowT,Tree.cols],Nat.zero_le _,HR17.out⟩)) (by simp [maxLen]) 1 rfl)
  first | have HB:=hid (HB.out.trans (hx1.mono HB.out.size)) | have HB:=hid hx1
  clear hX hx1 hxo
  refine hK.out _ _ (HB.out) (fun hHeld=>?_)
  clear hK K
  refine r1 11 (some 20) rfl (fun K hK=>?_)
  go_simp
  refine Calls.mono (fill19_any _ _ _ _ _ HR12.out HR19.out) ?_
  rintro e X ⟨AF,cF,SF,rfl,hvf,hsf,hx1⟩
  try have H4l:=H4.out.lt
  try have HR12:=hid (HR12.out.below hx1 hx1.size)
  try have HR17:=hid (HR17.out.below hx1 hx1.size)
  try have HR19:=hid (HR19.out.below hx1 hx1.size)
  try have HRF:=hid (HRF.out.keep (fun p hp=>hx1.cell (HSF.out _ hp)) (fun _ h=>h))
  try have HSF:=hid (fun q hq=>Nat.lt_of_lt_of_le (HSF.out q hq) hx1.size)
  try have H4:=hid (H4.out.below hx1)
  have HRF:=hid hvf
  have HSF:=hid (fun q (hq:SF q)=>(hsf q hq).2)
  try have HNF:=hid (fun q (hq:SF q)=>Nat.ne_of_gt (Nat.lt_of_lt_of_le H4l (hsf q hq).1))
  first | have HB:=hid (HB.out.trans (hx1.mono HB.out.size)) | have HB:=hid hx1
  clear hvf hx1 hsf
  refine hK.out _ _ (HB.out) (fun hHeld=>?_)
  clear hK K
  refine tk 12 8 rfl ?_
  refine tk 13 21 rfl ?_
  refine tk 14 22 rfl ?_
  refine r1 16 none rfl (fun K hK=>?_)
  rw [if_pos (by rfl)]
  refine wp_store_row 31 (.tmp 4) (.tmp 21) rfl _ _ rfl rfl 31 _ H4.out (by kernel_rfl) (by simp) (by simp [Value.oneCell']) ?_
  refine put19 H4.out (fun X hX=>?_)
  have H4:=hid hX.out.2
  have HRF:=hid (hX.out.1.reads (S':=Lt X.heap.size) HRF.out (fun k hk=>⟨HSF.out k hk,HNF.out k hk⟩) (fun k hk=>Nat.lt_of_lt_of_le (HSF.out k hk) hX.out.1.size))
  have HB:=hid (HB.out.trans (hX.out.1.below HB.out.size (fun k e=>e ▸ HG4.out)))
  clear hX
  refine hK.out _ _ (HB.out) (fun hHeld=>?_)
  clear hK K
  refine tk 17 5 rfl ?_
  refine wpAnyH_done (by kernel_rfl) ?_ _
  refine NoPanic.normal ?_
  rotate_left
  go_simp
  first | refine alcD (fun X hX=>?_) | refine alcN (fun X hX=>?_)
  have hx1:=hX.out.1
  have hxo:=hX.out.2.1
  try have HSF0:=HSF
  try have HR12:=hid (HR12.out.below hx1 hx1.size)
  try have HR17:=hid (HR17.out.below hx1 hx1.size)
  try have HR19:=hid (HR19.out.below hx1 hx1.size)
  try have HRF:=hid (HRF.out.keep (fun p hp=>hx1.cell (HSF.out _ hp)) (fun _ h=>h))
  try have HSF:=hid (fun q hq=>Nat.lt_of_lt_of_le (HSF.out q hq) hx1.size)
  try have H4:=hid (H4.out.below hx1)
  have H4:=hid hxo
  have HG4:=hid HB.out.size
  try have HNF:=hid (fun q (hq:SF q)=>Nat.ne_of_lt (HSF0.out q hq))
  first | have HB:=hid (HB.out.trans (hx1.mono HB.out.size)) | have HB:=hid hx1
  clear hX hx1 hxo
  refine hK.out _ _ (HB.out) (fun hHeld=>?_)
  clear hK K
  refine r1 8 (some 17) rfl (fun K hK=>?_)
  go_simp
  first | refine alcD (fun X hX=>?_) | refine alcN (fun X hX=>?_)
  have hx1:=hX.out.1
  have hxo:=hX.out.2.1
  try have HR12:=hid (HR12.out.below hx1 hx1.size)
  try have HR17:=hid (HR17.out.below hx1 hx1.size)
  try have HR19:=hid (HR19.out.below hx1 hx1.size)
  try have HRF:=hid (HRF.out.keep (fun p hp=>hx1.cell (HSF.out _ hp)) (fun _ h=>h))
  try have HSF:=hid (fun q hq=>Nat.lt_of_lt_of_le (HSF.out q hq) hx1.size)
  try have H4:=hid (H4.out.below hx1)
  have HR17:=hid (row_objT (ts:=[xxT,xxT]) hxo (ListR.append (ListR.single (E:=treeE) (leaf19 X _ ⟨#[120]⟩ sz1)) (ListR.single (E:=treeE) (leaf19 X _ ⟨#[120]⟩ sz1))) (by simp [maxLen]) 2 rfl)
  first | have HB:=hid (HB.out.trans (hx1.mono HB.out.size)) | have HB:=hid hx1
  clear hX hx1 hxo
  refine hK.out _ _ (HB.out) (fun hHeld=>?_)
  clear hK K
  refine r1 9 (some 18) rfl (fun K hK=>?_)
  go_simp
  refine Calls.mono (aw19_q _ _ _ _) ?_
  rintro e X ⟨rfl,hx1⟩
  try have HR12:=hid (HR12.out.below hx1 hx1.size)
  try have HR17:=hid (HR17.out.below hx1 hx1.size)
  try have HR19:=hid (HR19.out.below hx1 hx1.size)
  try have HRF:=hid (HRF.out.keep (fun p hp=>hx1.cell (HSF.out _ hp)) (fun _ h=>h))
  try have HSF:=hid (fun q hq=>Nat.lt_of_lt_of_le (HSF.out q hq) hx1.size)
  try have H4:=hid (H4.out.below hx1)
  first | have HB:=hid (HB.out.trans (hx1.mono HB.out.size)) | have HB:=hid hx1
  clear hx1
  refine hK.out _ _ (HB.out) (fun hHeld=>?_)
  clear hK K
  refine r1 10 (some 19) rfl (fun K hK=>?_)
  go_simp
  first | refine alcD (fun X hX=>?_) | refine alcN (fun X hX=>?_)
  have hx1:=hX.out.1
  have hxo:=hX.out.2.1
  try have HR12:=hid (HR12.out.below hx1 hx1.size)
  try have HR17:=hid (HR17.out.below hx1 hx1.size)
  try have HR19:=hid (HR19.out.below hx1 hx1.size)
  try have HRF:=hid (HRF.out.keep (fun p hp=>hx1.cell (HSF.out _ hp)) (fun _ h=>h))
  try have HSF:=hid (fun q hq=>Nat.lt_of_lt_of_le (HSF.out q hq) hx1.size)
  try have H4:=hid (H4.out.below hx1)
  have HR19:=hid (row_objT (ts:=[rowT [xxT,xxT]]) hxo (ListR.single (E:=treeE) (treeR_mk.2 ⟨_,rfl,by simp [In64,rowT,Tree.kind],by simp [In64,rowT,Tree.cols],Nat.zero_le _,HR17.out⟩)) (by simp [maxLen]) 1 rfl)
  first | have HB:=hid (HB.out.trans (hx1.mono HB.out.size)) | have HB:=hid hx1
  clear hX hx1 hxo
  refine hK.out _ _ (HB.out) (fun hHeld=>?_)
  clear hK K
  refine r1 11 (some 20) rfl (fun K hK=>?_)
  go_simp
  refine Calls.mono (fill19_any _ _ _ _ _ HR12.out HR19.out) ?_
  rintro e X ⟨AF,cF,SF,rfl,hvf,hsf,hx1⟩
  try have H4l:=H4.out.lt
  try have HR12:=hid (HR12.out.below hx1 hx1.size)
  try have HR17:=hid (HR17.out.below hx1 hx1.size)
  try have HR19:=hid (HR19.out.below hx1 hx1.size)
  try have HRF:=hid (HRF.out.keep (fun p hp=>hx1.cell (HSF.out _ hp)) (fun _ h=>h))
  try have HSF:=hid (fun q hq=>Nat.lt_of_lt_of_le (HSF.out q hq) hx1.size)
  try have H4:=hid (H4.out.below hx1)
  have HRF:=hid hvf
  have HSF:=hid (fun q (hq:SF q)=>(hsf q hq).2)
  try have HNF:=hid (fun q (hq:SF q)=>Nat.ne_of_gt (Nat.lt_of_lt_of_le H4l (hsf q hq).1))
  first | have HB:=hid (HB.out.trans (hx1.mono HB.out.size)) | have HB:=hid hx1
  clear hvf hx1 hsf
  refine hK.out _ _ (HB.out) (fun hHeld=>?_)
  clear hK K
  refine tk 12 8 rfl ?_
  refine tk 13 21 rfl ?_
  refine tk 14 22 rfl ?_
  refine r1 16 none rfl (fun K hK=>?_)
  rw [if_pos (by rfl)]
  refine wp_store_row 31 (.tmp 4) (.tmp 21) rfl _ _ rfl rfl 31 _ H4.out (by kernel_rfl) (by simp) (by simp [Value.oneCell']) ?_
  refine put19 H4.out (fun X hX=>?_)
  have H4:=hid hX.out.2
  have HRF:=hid (hX.out.1.reads (S':=Lt X.heap.size) HRF.out (fun k hk=>⟨HSF.out k hk,HNF.out k hk⟩) (fun k hk=>Nat.lt_of_lt_of_le (HSF.out k hk) hX.out.1.size))
  have HB:=hid (HB.out.trans (hX.out.1.below HB.out.size (fun k e=>e ▸ HG4.out)))
  clear hX
  refine hK.out _ _ (HB.out) (fun hHeld=>?_)
  clear hK K
  refine tk 17 5 rfl ?_
  refine wpAnyH_done (by kernel_rfl) ?_ _
  refine NoPanic.normal ?_
  rotate_left
  go_simp
  first | refine alcD (fun X hX=>?_) | refine alcN (fun X hX=>?_)
  have hx1:=hX.out.1
  have hxo:=hX.out.2.1
  try have HR12:=hid (HR12.out.below hx1 hx1.size)
  try have HR17:=hid (HR17.out.below hx1 hx1.size)
  try have HR19:=hid (HR19.out.below hx1 hx1.size)
  try have HRF:=hid (HRF.out.keep (fun p hp=>hx1.cell (HSF.out _ hp)) (fun _ h=>h))
  try have HSF:=hid (fun q hq=>Nat.lt_of_lt_of_le (HSF.out q hq) hx1.size)
  try have H4:=hid (H4.out.below hx1)
  have HR17:=hid (row_objT (ts:=[xxT,xxT]) hxo (ListR.append (ListR.single (E:=treeE) (leaf19 X _ ⟨#[120]⟩ sz1)) (ListR.single (E:=treeE) (leaf19 X _ ⟨#[120]⟩ sz1))) (by simp [maxLen]) 2 rfl)
  first | have HB:=hid (HB.out.trans (hx1.mono HB.out.size)) | have HB:=hid hx1
  clear hX hx1 hxo
  refine hK.out _ _ (HB.out) (fun hHeld=>?_)
  clear hK K
  refine rn [4,15] (rc (some 13) rfl (fun K hK=>?_) (rc (some 4) rfl (fun K hK=>?_) AllReadyH.nil))
  go_simp
  refine Calls.mono (aw19_q _ _ _ _) ?_
  rintro e X ⟨rfl,hx1⟩
  try have HR12:=hid (HR12.out.below hx1 hx1.size)
  try have HR17:=hid (HR17.out.below hx1 hx1.size)
  try have HR19:=hid (HR19.out.below hx1 hx1.size)
  try have HRF:=hid (HRF.out.keep (fun p hp=>hx1.cell (HSF.out _ hp)) (fun _ h=>h))
  try have HSF:=hid (fun q hq=>Nat.lt_of_lt_of_le (HSF.out q hq) hx1.size)
  try have H4:=hid (H4.out.below hx1)
  first | have HB:=hid (HB.out.trans (hx1.mono HB.out.size)) | have HB:=hid hx1
  clear hx1
  refine hK.out _ _ (HB.out) (fun hHeld=>?_)
  clear hK K
  refine rn [9,15] (rc (some 18) rfl (fun K hK=>?_) (rc (some 4) rfl (fun K hK=>?_) AllReadyH.nil))
  go_simp
  refine Calls.mono (aw19_q _ _ _ _) ?_
  rintro e X ⟨rfl,hx1⟩
  try have HR12:=hid (HR12.out.below hx1 hx1.size)
  try have HR17:=hid (HR17.out.below hx1 hx1.size)
  try have HR19:=hid (HR19.out.below hx1 hx1.size)
  try have HRF:=hid (HRF.out.keep (fun p hp=>hx1.cell (HSF.out _ hp)) (fun _ h=>h))
  try have HSF:=hid (fun q hq=>Nat.lt_of_lt_of_le (HSF.out q hq) hx1.size)
  try have H4:=hid (H4.out.below hx1)
  first | have HB:=hid (HB.out.trans (hx1.mono HB.out.size)) | have HB:=hid hx1
  clear hx1
  refine hK.out _ _ (HB.out) (fun hHeld=>?_)
  clear hK K
  refine rn [10,15] (rc (some 19) rfl (fun K hK=>?_) (rc (some 4) rfl (fun K hK=>?_) AllReadyH.nil))
  go_simp
  first | refine alcD (fun X hX=>?_) | refine alcN (fun X hX=>?_)
  have hx1:=hX.out.1
  have hxo:=hX.out.2.1
  try have HR12:=hid (HR12.out.below hx1 hx1.size)
  try have HR17:=hid (HR17.out.below hx1 hx1.size)
  try have HR19:=hid (HR19.out.below hx1 hx1.size)
  try have HRF:=hid (HRF.out.keep (fun p hp=>hx1.cell (HSF.out _ hp)) (fun _ h=>h))
  try have HSF:=hid (fun q hq=>Nat.lt_of_lt_of_le (HSF.out q hq) hx1.size)
  try have H4:=hid (H4.out.below hx1)
  have HR19:=hid (row_objT (ts:=[rowT [xxT,xxT]]) hxo (ListR.single (E:=treeE) (treeR_mk.2 ⟨_,rfl,by simp [In64,rowT,Tree.kind],by simp [In64,rowT,Tree.cols],Nat.zero_le _,HR17.out⟩)) (by simp [maxLen]) 1 rfl)
  first | have HB:=hid (HB.out.trans (hx1.mono HB.out.size)) | have HB:=hid hx1
  clear hX hx1 hxo
  refine hK.out _ _ (HB.out) (fun hHeld=>?_)
  clear hK K
  refine rn [11,15] (rc (some 20) rfl (fun K hK=>?_) (rc (some 4) rfl (fun K hK=>?_) AllReadyH.nil))
  go_simp
  refine Calls.mono (fill19_any _ _ _ _ _ HR12.out HR19.out) ?_
  rintro e X ⟨AF,cF,SF,rfl,hvf,hsf,hx1⟩
  try have H4l:=H4.out.lt
  try have HR12:=hid (HR12.out.below hx1 hx1.size)
  try have HR17:=hid (HR17.out.below hx1 hx1.size)
  try have HR19:=hid (HR19.out.below hx1 hx1.size)
  try have HRF:=hid (HRF.out.keep (fun p hp=>hx1.cell (HSF.out _ hp)) (fun _ h=>h))
  try have HSF:=hid (fun q hq=>Nat.lt_of_lt_of_le (HSF.out q hq) hx1.size)
  try have H4:=hid (H4.out.below hx1)
  have HRF:=hid hvf
  have HSF:=hid (fun q (hq:SF q)=>(hsf q hq).2)
  try have HNF:=hid (fun q (hq:SF q)=>Nat.ne_of_gt (Nat.lt_of_lt_of_le H4l (hsf q hq).1))
  first | have HB:=hid (HB.out.trans (hx1.mono HB.out.size)) | have HB:=hid hx1
  clear hvf hx1 hsf
  refine hK.out _ _ (HB.out) (fun hHeld=>?_)
  clear hK K
  refine tk 12 8 rfl ?_
  refine tk 13 21 rfl ?_
  refine tk 14 22 rfl ?_
  refine r1 15 (some 4) rfl (fun K hK=>?_)
  go_simp
  first | refine alcD (fun X hX=>?_) | refine alcN (fun X hX=>?_)
  have hx1:=hX.out.1
  have hxo:=hX.out.2.1
  try have HSF0:=HSF
  try have HR12:=hid (HR12.out.below hx1 hx1.size)
  try have HR17:=hid (HR17.out.below hx1 hx1.size)
  try have HR19:=hid (HR19.out.below hx1 hx1.size)
  try have HRF:=hid (HRF.out.keep (fun p hp=>hx1.cell (HSF.out _ hp)) (fun _ h=>h))
  try have HSF:=hid (fun q hq=>Nat.lt_of_lt_of_le (HSF.out q hq) hx1.size)
  try have H4:=hid (H4.out.below hx1)
  have H4:=hid hxo
  have HG4:=hid HB.out.size
  try have HNF:=hid (fun q (hq:SF q)=>Nat.ne_of_lt (HSF0.out q hq))
  first | have HB:=hid (HB.out.trans (hx1.mono HB.out.size)) | have HB:=hid hx1
  clear hX hx1 hxo
  refine hK.out _ _ (HB.out) (fun hHeld=>?_)
  clear hK K
  refine r1 16 none rfl (fun K hK=>?_)
  rw [if_pos (by rfl)]
  refine wp_store_row 31 (.tmp 4) (.tmp 21) rfl _ _ rfl rfl 31 _ H4.out (by kernel_rfl) (by simp) (by simp [Value.oneCell']) ?_
  refine put19 H4.out (fun X hX=>?_)
  have H4:=hid hX.out.2
  have HRF:=hid (hX.out.1.reads (S':=Lt X.heap.size) HRF.out (fun k hk=>⟨HSF.out k hk,HNF.out k hk⟩) (fun k hk=>Nat.lt_of_lt_of_le (HSF.out k hk) hX.out.1.size))
  have HB:=hid (HB.out.trans (hX.out.1.below HB.out.size (fun k e=>e ▸ HG4.out)))
  clear hX
  refine hK.out _ _ (HB.out) (fun hHeld=>?_)
  clear hK K
  refine tk 17 5 rfl ?_
  refine wpAnyH_done (by kernel_rfl) ?_ _
  refine NoPanic.normal ?_
  rotate_left
  go_simp
  first | refine alcD (fun X hX=>?_) | refine alcN (fun X hX=>?_)
  have hx1:=hX.out.1
  have hxo:=hX.out.2.1
  try have HSF0:=HSF
  try have HR12:=hid (HR12.out.below hx1 hx1.size)
  try have HR17:=hid (HR17.out.below hx1 hx1.size)
  try have HR19:=hid (HR19.out.below hx1 hx1.size)
  try have HRF:=hid (HRF.out.keep (fun p hp=>hx1.cell (HSF.out _ hp)) (fun _ h=>h))
  try have HSF:=hid (fun q hq=>Nat.lt_of_lt_of_le (HSF.out q hq) hx1.size)
  try have H4:=hid (H4.out.below hx1)
  have H4:=hid hxo
  have HG4:=hid HB.out.size
  try have HNF:=hid (fun q (hq:SF q)=>Nat.ne_of_lt (HSF0.out q hq))
  first | have HB:=hid (HB.out.trans (hx1.mono HB.out.size)) | have HB:=hid hx1
  clear hX hx1 hxo
  refine hK.out _ _ (HB.out) (fun hHeld=>?_)
  clear hK K
  refine r1 11 (some 20) rfl (fun K hK=>?_)
  go_simp
  refine Calls.mono (fill19_any _ _ _ _ _ HR12.out HR19.out) ?_
  rintro e X ⟨AF,cF,SF,rfl,hvf,hsf,hx1⟩
  try have H4l:=H4.out.lt
  try have HR12:=hid (HR12.out.below hx1 hx1.size)
  try have HR17:=hid (HR17.out.below hx1 hx1.size)
  try have HR19:=hid (HR19.out.below hx1 hx1.size)
  try have HRF:=hid (HRF.out.keep (fun p hp=>hx1.cell (HSF.out _ hp)) (fun _ h=>h))
  try have HSF:=hid (fun q hq=>Nat.lt_of_lt_of_le (HSF.out q hq) hx1.size)
  try have H4:=hid (H4.out.below hx1)
  have HRF:=hid hvf
  have HSF:=hid (fun q (hq:SF q)=>(hsf q hq).2)
  try have HNF:=hid (fun q (hq:SF q)=>Nat.ne_of_gt (Nat.lt_of_lt_of_le H4l (hsf q hq).1))
  first | have HB:=hid (HB.out.trans (hx1.mono HB.out.size)) | have HB:=hid hx1
  clear hvf hx1 hsf
  refine hK.out _ _ (HB.out) (fun hHeld=>?_)
  clear hK K
  refine tk 12 8 rfl ?_
  refine tk 13 21 rfl ?_
  refine tk 14 22 rfl ?_
  refine r1 16 none rfl (fun K hK=>?_)
  rw [if_pos (by rfl)]
  refine wp_store_row 31 (.tmp 4) (.tmp 21) rfl _ _ rfl rfl 31 _ H4.out (by kernel_rfl) (by simp) (by simp [Value.oneCell']) ?_
  refine put19 H4.out (fun X hX=>?_)
  have H4:=hid hX.out.2
  have HRF:=hid (hX.out.1.reads (S':=Lt X.heap.size) HRF.out (fun k hk=>⟨HSF.out k hk,HNF.out k hk⟩) (fun k hk=>Nat.lt_of_lt_of_le (HSF.out k hk) hX.out.1.size))
  have HB:=hid (HB.out.trans (hX.out.1.below HB.out.size (fun k e=>e ▸ HG4.out)))
  clear hX
  refine hK.out _ _ (HB.out) (fun hHeld=>?_)
  clear hK K
  refine tk 17 5 rfl ?_
  refine wpAnyH_done (by kernel_rfl) ?_ _
  refine NoPanic.normal ?_
  rotate_left
  go_simp
  first | refine alcD (fun X hX=>?_) | refine alcN (fun X hX=>?_)
  have hx1:=hX.out.1
  have hxo:=hX.out.2.1
  try have HSF0:=HSF
  try have HR12:=hid (HR12.out.below hx1 hx1.size)
  try have HR17:=hid (HR17.out.below hx1 hx1.size)
  try have HR19:=hid (HR19.out.below hx1 hx1.size)
  try have HRF:=hid (HRF.out.keep (fun p hp=>hx1.cell (HSF.out _ hp)) (fun _ h=>h))
  try have HSF:=hid (fun q hq=>Nat.lt_of_lt_of_le (HSF.out q hq) hx1.size)
  try have H4:=hid (H4.out.below hx1)
  have H4:=hid hxo
  have HG4:=hid HB.out.size
  try have HNF:=hid (fun q (hq:SF q)=>Nat.ne_of_lt (HSF0.out q hq))
  first | have HB:=hid (HB.out.trans (hx1.mono HB.out.size)) | have HB:=hid hx1
  clear hX hx1 hxo
  refine hK.out _ _ (HB.out) (fun hHeld=>?_)
  clear hK K
  refine r1 10 (some 19) rfl (fun K hK=>?_)
  go_simp
  first | refine alcD (fun X hX=>?_) | refine alcN (fun X hX=>?_)
  have hx1:=hX.out.1
  have hxo:=hX.out.2.1
  try have HR12:=hid (HR12.out.below hx1 hx1.size)
  try have HR17:=hid (HR17.out.below hx1 hx1.size)
  try have HR19:=hid (HR19.out.below hx1 hx1.size)
  try have HRF:=hid (HRF.out.keep (fun p hp=>hx1.cell (HSF.out _ hp)) (fun _ h=>h))
  try have HSF:=hid (fun q hq=>Nat.lt_of_lt_of_le (HSF.out q hq) hx1.size)
  try have H4:=hid (H4.out.below hx1)
  have HR19:=hid (row_objT (ts:=[rowT [xxT,xxT]]) hxo (ListR.single (E:=treeE) (treeR_mk.2 ⟨_,rfl,by simp [In64,rowT,Tree.kind],by simp [In64,rowT,Tree.cols],Nat.zero_le _,HR17.out⟩)) (by simp [maxLen]) 1 rfl)
  first | have HB:=hid (HB.out.trans (hx1.mono HB.out.size)) | have HB:=hid hx1
  clear hX hx1 hxo
  refine hK.out _ _ (HB.out) (fun hHeld=>?_)
  clear hK K
  refine r1 11 (some 20) rfl (fun K hK=>?_)
  go_simp
  refine Calls.mono (fill19_any _ _ _ _ _ HR12.out HR19.out) ?_
  rintro e X ⟨AF,cF,SF,rfl,hvf,hsf,hx1⟩
  try have H4l:=H4.out.lt
  try have HR12:=hid (HR12.out.below hx1 hx1.size)
  try have HR17:=hid (HR17.out.below hx1 hx1.size)
  try have HR19:=hid (HR19.out.below hx1 hx1.size)
  try have HRF:=hid (HRF.out.keep (fun p hp=>hx1.cell (HSF.out _ hp)) (fun _ h=>h))
  try have HSF:=hid (fun q hq=>Nat.lt_of_lt_of_le (HSF.out q hq) hx1.size)
  try have H4:=hid (H4.out.below hx1)
  have HRF:=hid hvf
  have HSF:=hid (fun q (hq:SF q)=>(hsf q hq).2)
  try have HNF:=hid (fun q (hq:SF q)=>Nat.ne_of_gt (Nat.lt_of_lt_of_le H4l (hsf q hq).1))
  first | have HB:=hid (HB.out.trans (hx1.mono HB.out.size)) | have HB:=hid hx1
  clear hvf hx1 hsf
  refine hK.out _ _ (HB.out) (fun hHeld=>?_)
  clear hK K
  refine tk 12 8 rfl ?_
  refine tk 13 21 rfl ?_
  refine tk 14 22 rfl ?_
  refine r1 16 none rfl (fun K hK=>?_)
  rw [if_pos (by rfl)]
  refine wp_store_row 31 (.tmp 4) (.tmp 21) rfl _ _ rfl rfl 31 _ H4.out (by kernel_rfl) (by simp) (by simp [Value.oneCell']) ?_
  refine put19 H4.out (fun X hX=>?_)
  have H4:=hid hX.out.2
  have HRF:=hid (hX.out.1.reads (S':=Lt X.heap.size) HRF.out (fun k hk=>⟨HSF.out k hk,HNF.out k hk⟩) (fun k hk=>Nat.lt_of_lt_of_le (HSF.out k hk) hX.out.1.size))
  have HB:=hid (HB.out.trans (hX.out.1.below HB.out.size (fun k e=>e ▸ HG4.out)))
  clear hX
  refine hK.out _ _ (HB.out) (fun hHeld=>?_)
  clear hK K
  refine tk 17 5 rfl ?_
  refine wpAnyH_done (by kernel_rfl) ?_ _
  refine NoPanic.normal ?_
  rotate_left
  go_simp
  first | refine alcD (fun X hX=>?_) | refine alcN (fun X hX=>?_)
  have hx1:=hX.out.1
  have hxo:=hX.out.2.1
  try have HSF0:=HSF
  try have HR12:=hid (HR12.out.below hx1 hx1.size)
  try have HR17:=hid (HR17.out.below hx1 hx1.size)
  try have HR19:=hid (HR19.out.below hx1 hx1.size)
  try have HRF:=hid (HRF.out.keep (fun p hp=>hx1.cell (HSF.out _ hp)) (fun _ h=>h))
  try have HSF:=hid (fun q hq=>Nat.lt_of_lt_of_le (HSF.out q hq) hx1.size)
  try have H4:=hid (H4.out.below hx1)
  have H4:=hid hxo
  have HG4:=hid HB.out.size
  try have HNF:=hid (fun q (hq:SF q)=>Nat.ne_of_lt (HSF0.out q hq))
  first | have HB:=hid (HB.out.trans (hx1.mono HB.out.size)) | have HB:=hid hx1
  clear hX hx1 hxo
  refine hK.out _ _ (HB.out) (fun hHeld=>?_)
  clear hK K
  refine r1 9 (some 18) rfl (fun K hK=>?_)
  go_simp
  refine Calls.mono (aw19_q _ _ _ _) ?_
  rintro e X ⟨rfl,hx1⟩
  try have HR12:=hid (HR12.out.below hx1 hx1.size)
  try have HR17:=hid (HR17.out.below hx1 hx1.size)
  try have HR19:=hid (HR19.out.below hx1 hx1.size)
  try have HRF:=hid (HRF.out.keep (fun p hp=>hx1.cell (HSF.out _ hp)) (fun _ h=>h))
  try have HSF:=hid (fun q hq=>Nat.lt_of_lt_of_le (HSF.out q hq) hx1.size)
  try have H4:=hid (H4.out.below hx1)
  first | have HB:=hid (HB.out.trans (hx1.mono HB.out.size)) | have HB:=hid hx1
  clear hx1
  refine hK.out _ _ (HB.out) (fun hHeld=>?_)
  clear hK K
  refine r1 10 (some 19) rfl (fun K hK=>?_)
  go_simp
  first | refine alcD (fun X hX=>?_) | refine alcN (fun X hX=>?_)
  have hx1:=hX.out.1
  have hxo:=hX.out.2.1
  try have HR12:=hid (HR12.out.below hx1 hx1.size)
  try have HR17:=hid (HR17.out.below hx1 hx1.size)
  try have HR19:=hid (HR19.out.below hx1 hx1.size)
  try have HRF:=hid (HRF.out.keep (fun p hp=>hx1.cell (HSF.out _ hp)) (fun _ h=>h))
  try have HSF:=hid (fun q hq=>Nat.lt_of_lt_of_le (HSF.out q hq) hx1.size)
  try have H4:=hid (H4.out.below hx1)
  have HR19:=hid (row_objT (ts:=[rowT [xxT,xxT]]) hxo (ListR.single (E:=treeE) (treeR_mk.2 ⟨_,rfl,by simp [In64,rowT,Tree.kind],by simp [In64,rowT,Tree.cols],Nat.zero_le _,HR17.out⟩)) (by simp [maxLen]) 1 rfl)
  first | have HB:=hid (HB.out.trans (hx1.mono HB.out.size)) | have HB:=hid hx1
  clear hX hx1 hxo
  refine hK.out _ _ (HB.out) (fun hHeld=>?_)
  clear hK K
  refine r1 11 (some 20) rfl (fun K hK=>?_)
  go_simp
  refine Calls.mono (fill19_any _ _ _ _ _ HR12.out HR19.out) ?_
  rintro e X ⟨AF,cF,SF,rfl,hvf,hsf,hx1⟩
  try have H4l:=H4.out.lt
  try have HR12:=hid (HR12.out.below hx1 hx1.size)
  try have HR17:=hid (HR17.out.below hx1 hx1.size)
  try have HR19:=hid (HR19.out.below hx1 hx1.size)
  try have HRF:=hid (HRF.out.keep (fun p hp=>hx1.cell (HSF.out _ hp)) (fun _ h=>h))
  try have HSF:=hid (fun q hq=>Nat.lt_of_lt_of_le (HSF.out q hq) hx1.size)
  try have H4:=hid (H4.out.below hx1)
  have HRF:=hid hvf
  have HSF:=hid (fun q (hq:SF q)=>(hsf q hq).2)
  try have HNF:=hid (fun q (hq:SF q)=>Nat.ne_of_gt (Nat.lt_of_lt_of_le H4l (hsf q hq).1))
  first | have HB:=hid (HB.out.trans (hx1.mono HB.out.size)) | have HB:=hid hx1
  clear hvf hx1 hsf
  refine hK.out _ _ (HB.out) (fun hHeld=>?_)
  clear hK K
  refine tk 12 8 rfl ?_
  refine tk 13 21 rfl ?_
  refine tk 14 22 rfl ?_
  refine r1 16 none rfl (fun K hK=>?_)
  rw [if_pos (by rfl)]
  refine wp_store_row 31 (.tmp 4) (.tmp 21) rfl _ _ rfl rfl 31 _ H4.out (by kernel_rfl) (by simp) (by simp [Value.oneCell']) ?_
  refine put19 H4.out (fun X hX=>?_)
  have H4:=hid hX.out.2
  have HRF:=hid (hX.out.1.reads (S':=Lt X.heap.size) HRF.out (fun k hk=>⟨HSF.out k hk,HNF.out k hk⟩) (fun k hk=>Nat.lt_of_lt_of_le (HSF.out k hk) hX.out.1.size))
  have HB:=hid (HB.out.trans (hX.out.1.below HB.out.size (fun k e=>e ▸ HG4.out)))
  clear hX
  refine hK.out _ _ (HB.out) (fun hHeld=>?_)
  clear hK K
  refine tk 17 5 rfl ?_
  refine wpAnyH_done (by kernel_rfl) ?_ _
  refine NoPanic.normal ?_
  rotate_left
  go_simp
  first | refine alcD (fun X hX=>?_) | refine alcN (fun X hX=>?_)
  have hx1:=hX.out.1
  have hxo:=hX.out.2.1
  try have HSF0:=HSF
  try have HR12:=hid (HR12.out.below hx1 hx1.size)
  try have HR17:=hid (HR17.out.below hx1 hx1.size)
  try have HR19:=hid (HR19.out.below hx1 hx1.size)
  try have HRF:=hid (HRF.out.keep (fun p hp=>hx1.cell (HSF.out _ hp)) (fun _ h=>h))
  try have HSF:=hid (fun q hq=>Nat.lt_of_lt_of_le (HSF.out q hq) hx1.size)
  try have H4:=hid (H4.out.below hx1)
  have H4:=hid hxo
  have HG4:=hid HB.out.size
  try have HNF:=hid (fun q (hq:SF q)=>Nat.ne_of_lt (HSF0.out q hq))
  first | have HB:=hid (HB.out.trans (hx1.mono HB.out.size)) | have HB:=hid hx1
  clear hX hx1 hxo
  refine hK.out _ _ (HB.out) (fun hHeld=>?_)
  clear hK K
  refine r1 4 (some 13) rfl (fun K hK=>?_)
  go_simp
  refine Calls.mono (aw19_q _ _ _ _) ?_
  rintro e X ⟨rfl,hx1⟩
  try have HR12:=hid (HR12.out.below hx1 hx1.size)
  try have HR17:=hid (HR17.out.below hx1 hx1.size)
  try have HR19:=hid (HR19.out.below hx1 hx1.size)
  try have HRF:=hid (HRF.out.keep (fun p hp=>hx1.cell (HSF.out _ hp)) (fun _ h=>h))
  try have HSF:=hid (fun q hq=>Nat.lt_of_lt_of_le (HSF.out q hq) hx1.size)
  try have H4:=hid (H4.out.below hx1)
  first | have HB:=hid (HB.out.trans (hx1.mono HB.out.size)) | have HB:=hid hx1
  clear hx1
  refine hK.out _ _ (HB.out) (fun hHeld=>?_)
  clear hK K
  refine r1 9 (some 18) rfl (fun K hK=>?_)
  go_simp
  refine Calls.mono (aw19_q _ _ _ _) ?_
  rintro e X ⟨rfl,hx1⟩
  try have HR12:=hid (HR12.out.below hx1 hx1.size)
  try have HR17:=hid (HR17.out.below hx1 hx1.size)
  try have HR19:=hid (HR19.out.below hx1 hx1.size)
  try have HRF:=hid (HRF.out.keep (fun p hp=>hx1.cell (HSF.out _ hp)) (fun _ h=>h))
  try have HSF:=hid (fun q hq=>Nat.lt_of_lt_of_le (HSF.out q hq) hx1.size)
  try have H4:=hid (H4.out.below hx1)
  first | have HB:=hid (HB.out.trans (hx1.mono HB.out.size)) | have HB:=hid hx1
  clear hx1
  refine hK.out _ _ (HB.out) (fun hHeld=>?_)
  clear hK K
  refine r1 10 (some 19) rfl (fun K hK=>?_)
  go_simp
  first | refine alcD (fun X hX=>?_) | refine alcN (fun X hX=>?_)
  have hx1:=hX.out.1
  have hxo:=hX.out.2.1
  try have HR12:=hid (HR12.out.below hx1 hx1.size)
  try have HR17:=hid (HR17.out.below hx1 hx1.size)
  try have HR19:=hid (HR19.out.below hx1 hx1.size)
  try have HRF:=hid (HRF.out.keep (fun p hp=>hx1.cell (HSF.out _ hp)) (fun _ h=>h))
  try have HSF:=hid (fun q hq=>Nat.lt_of_lt_of_le (HSF.out q hq) hx1.size)
  try have H4:=hid (H4.out.below hx1)
  have HR19:=hid (row_objT (ts:=[rowT [xxT,xxT]]) hxo (ListR.single (E:=treeE) (treeR_mk.2 ⟨_,rfl,by simp [In64,rowT,Tree.kind],by simp [In64,rowT,Tree.cols],Nat.zero_le _,HR17.out⟩)) (by simp [maxLen]) 1 rfl)
  first | have HB:=hid (HB.out.trans (hx1.mono HB.out.size)) | have HB:=hid hx1
  clear hX hx1 hxo
  refine hK.out _ _ (HB.out) (fun hHeld=>?_)
  clear hK K
  refine r1 11 (some 20) rfl (fun K hK=>?_)
  go_simp
  refine Calls.mono (fill19_any _ _ _ _ _ HR12.out HR19.out) ?_
  rintro e X ⟨AF,cF,SF,rfl,hvf,hsf,hx1⟩
  try have H4l:=H4.out.lt
  try have HR12:=hid (HR12.out.below hx1 hx1.size)
  try have HR17:=hid (HR17.out.below hx1 hx1.size)
  try have HR19:=hid (HR19.out.below hx1 hx1.size)
  try have HRF:=hid (HRF.out.keep (fun p hp=>hx1.cell (HSF.out _ hp)) (fun _ h=>h))
  try have HSF:=hid (fun q hq=>Nat.lt_of_lt_of_le (HSF.out q hq) hx1.size)
  try have H4:=hid (H4.out.below hx1)
  have HRF:=hid hvf
  have HSF:=hid (fun q (hq:SF q)=>(hsf q hq).2)
  try have HNF:=hid (fun q (hq:SF q)=>Nat.ne_of_gt (Nat.lt_of_lt_of_le H4l (hsf q hq).1))
  first | have HB:=hid (HB.out.trans (hx1.mono HB.out.size)) | have HB:=hid hx1
  clear hvf hx1 hsf
  refine hK.out _ _ (HB.out) (fun hHeld=>?_)
  clear hK K
  refine tk 12 8 rfl ?_
  refine tk 13 21 rfl ?_
  refine tk 14 22 rfl ?_
  refine r1 16 none rfl (fun K hK=>?_)
  rw [if_pos (by rfl)]
  refine wp_store_row 31 (.tmp 4) (.tmp 21) rfl _ _ rfl rfl 31 _ H4.out (by kernel_rfl) (by simp) (by simp [Value.oneCell']) ?_
  refine put19 H4.out (fun X hX=>?_)
  have H4:=hid hX.out.2
  have HRF:=hid (hX.out.1.reads (S':=Lt X.heap.size) HRF.out (fun k hk=>⟨HSF.out k hk,HNF.out k hk⟩) (fun k hk=>Nat.lt_of_lt_of_le (HSF.out k hk) hX.out.1.size))
  have HB:=hid (HB.out.trans (hX.out.1.below HB.out.size (fun k e=>e ▸ HG4.out)))
  clear hX
  refine hK.out _ _ (HB.out) (fun hHeld=>?_)
  clear hK K
  refine tk 17 5 rfl ?_
  refine wpAnyH_done (by kernel_rfl) ?_ _
  refine NoPanic.normal ?_
  rotate_left
  go_simp
  first | refine alcD (fun X hX=>?_) | refine alcN (fun X hX=>?_)
  have hx1:=hX.out.1
  have hxo:=hX.out.2.1
  try have HSF0:=HSF
  try have HR12:=hid (HR12.out.below hx1 hx1.size)
  try have HR17:=hid (HR17.out.below hx1 hx1.size)
  try have HR19:=hid (HR19.out.below hx1 hx1.size)
  try have HRF:=hid (HRF.out.keep (fun p hp=>hx1.cell (HSF.out _ hp)) (fun _ h=>h))
  try have HSF:=hid (fun q hq=>Nat.lt_of_lt_of_le (HSF.out q hq) hx1.size)
  try have H4:=hid (H4.out.below hx1)
  have H4:=hid hxo
  have HG4:=hid HB.out.size
  try have HNF:=hid (fun q (hq:SF q)=>Nat.ne_of_lt (HSF0.out q hq))
  first | have HB:=hid (HB.out.trans (hx1.mono HB.out.size)) | have HB:=hid hx1
  clear hX hx1 hxo
  refine hK.out _ _ (HB.out) (fun hHeld=>?_)
  clear hK K
  refine rn [4,8] (rc (some 13) rfl (fun K hK=>?_) (rc (some 17) rfl (fun K hK=>?_) AllReadyH.nil))
  go_simp
  refine Calls.mono (aw19_q _ _ _ _) ?_
  rintro e X ⟨rfl,hx1⟩
  try have HR12:=hid (HR12.out.below hx1 hx1.size)
  try have HR17:=hid (HR17.out.below hx1 hx1.size)
  try have HR19:=hid (HR19.out.below hx1 hx1.size)
  try have HRF:=hid (HRF.out.keep (fun p hp=>hx1.cell (HSF.out _ hp)) (fun _ h=>h))
  try have HSF:=hid (fun q hq=>Nat.lt_of_lt_of_le (HSF.out q hq) hx1.size)
  try have H4:=hid (H4.out.below hx1)
  first | have HB:=hid (HB.out.trans (hx1.mono HB.out.size)) | have HB:=hid hx1
  clear hx1
  refine hK.out _ _ (HB.out) (fun hHeld=>?_)
  clear hK K
  refine r1 8 (some 17) rfl (fun K hK=>?_)
  go_simp
  first | refine alcD (fun X hX=>?_) | refine alcN (fun X hX=>?_)
  have hx1:=hX.out.1
  have hxo:=hX.out.2.1
  try have HR12:=hid (HR12.out.below hx1 hx1.size)
  try have HR17:=hid (HR17.out.below hx1 hx1.size)
  try have HR19:=hid (HR19.out.below hx1 hx1.size)
  try have HRF:=hid (HRF.out.keep (fun p hp=>hx1.cell (HSF.out _ hp)) (fun _ h=>h))
  try have HSF:=hid (fun q hq=>Nat.lt_of_lt_of_le (HSF.out q hq) hx1.size)
  try have H4:=hid (H4.out.below hx1)
  have HR17:=hid (row_objT (ts:=[xxT,xxT]) hxo (ListR.append (ListR.single (E:=treeE) (leaf19 X _ ⟨#[120]⟩ sz1)) (ListR.single (E:=treeE) (leaf19 X _ ⟨#[120]⟩ sz1))) (by simp [maxLen]) 2 rfl)
  first | have HB:=hid (HB.out.trans (hx1.mono HB.out.size)) | have HB:=hid hx1
  clear hX hx1 hxo
  refine hK.out _ _ (HB.out) (fun hHeld=>?_)
  clear hK K
  refine r1 9 (some 18) rfl (fun K hK=>?_)
  go_simp
  refine Calls.mono (aw19_q _ _ _ _) ?_
  rintro e X ⟨rfl,hx1⟩
  try have HR12:=hid (HR12.out.below hx1 hx1.size)
  try have HR17:=hid (HR17.out.below hx1 hx1.size)
  try have HR19:=hid (HR19.out.below hx1 hx1.size)
  try have HRF:=hid (HRF.out.keep (fun p hp=>hx1.cell (HSF.out _ hp)) (fun _ h=>h))
  try have HSF:=hid (fun q hq=>Nat.lt_of_lt_of_le (HSF.out q hq) hx1.size)
  try have H4:=hid (H4.out.below hx1)
  first | have HB:=hid (HB.out.trans (hx1.mono HB.out.size)) | have HB:=hid hx1
  clear hx1
  refine hK.out _ _ (HB.out) (fun hHeld=>?_)
  clear hK K
  refine r1 10 (some 19) rfl (fun K hK=>?_)
  go_simp
  first | refine alcD (fun X hX=>?_) | refine alcN (fun X hX=>?_)
  have hx1:=hX.out.1
  have hxo:=hX.out.2.1
  try have HR12:=hid (HR12.out.below hx1 hx1.size)
  try have HR17:=hid (HR17.out.below hx1 hx1.size)
  try have HR19:=hid (HR19.out.below hx1 hx1.size)
  try have HRF:=hid (HRF.out.keep (fun p hp=>hx1.cell (HSF.out _ hp)) (fun _ h=>h))
  try have HSF:=hid (fun q hq=>Nat.lt_of_lt_of_le (HSF.out q hq) hx1.size)
  try have H4:=hid (H4.out.below hx1)
  have HR19:=hid (row_objT (ts:=[rowT [xxT,xxT]]) hxo (ListR.single (E:=treeE) (treeR_mk.2 ⟨_,rfl,by simp [In64,rowT,Tree.kind],by simp [In64,rowT,Tree.cols],Nat.zero_le _,HR17.out⟩)) (by simp [maxLen]) 1 rfl)
  first | have HB:=hid (HB.out.trans (hx1.mono HB.out.size)) | have HB:=hid hx1
  clear hX hx1 hxo
  refine hK.out _ _ (HB.out) (fun hHeld=>?_)
  clear hK K
  refine r1 11 (some 20) rfl (fun K hK=>?_)
  go_simp
  refine Calls.mono (fill19_any _ _ _ _ _ HR12.out HR19.out) ?_
  rintro e X ⟨AF,cF,SF,rfl,hvf,hsf,hx1⟩
  try have H4l:=H4.out.lt
  try have HR12:=hid (HR12.out.below hx1 hx1.size)
  try have HR17:=hid (HR17.out.below hx1 hx1.size)
  try have HR19:=hid (HR19.out.below hx1 hx1.size)
  try have HRF:=hid (HRF.out.keep (fun p hp=>hx1.cell (HSF.out _ hp)) (fun _ h=>h))
  try have HSF:=hid (fun q hq=>Nat.lt_of_lt_of_le (HSF.out q hq) hx1.size)
  try have H4:=hid (H4.out.below hx1)
  have HRF:=hid hvf
  have HSF:=hid (fun q (hq:SF q)=>(hsf q hq).2)
  try have HNF:=hid (fun q (hq:SF q)=>Nat.ne_of_gt (Nat.lt_of_lt_of_le H4l (hsf q hq).1))
  first | have HB:=hid (HB.out.trans (hx1.mono HB.out.size)) | have HB:=hid hx1
  clear hvf hx1 hsf
  refine hK.out _ _ (HB.out) (fun hHeld=>?_)
  clear hK K
  refine tk 12 8 rfl ?_
  refine tk 13 21 rfl ?_
  refine tk 14 22 rfl ?_
  refine r1 16 none rfl (fun K hK=>?_)
  rw [if_pos (by rfl)]
  refine wp_store_row 31 (.tmp 4) (.tmp 21) rfl _ _ rfl rfl 31 _ H4.out (by kernel_rfl) (by simp) (by simp [Value.oneCell']) ?_
  refine put19 H4.out (fun X hX=>?_)
  have H4:=hid hX.out.2
  have HRF:=hid (hX.out.1.reads (S':=Lt X.heap.size) HRF.out (fun k hk=>⟨HSF.out k hk,HNF.out k hk⟩) (fun k hk=>Nat.lt_of_lt_of_le (HSF.out k hk) hX.out.1.size))
  have HB:=hid (HB.out.trans (hX.out.1.below HB.out.size (fun k e=>e ▸ HG4.out)))
  clear hX
  refine hK.out _ _ (HB.out) (fun hHeld=>?_)
  clear hK K
  refine tk 17 5 rfl ?_
  refine wpAnyH_done (by kernel_rfl) ?_ _
  refine NoPanic.normal ?_
  rotate_left
  go_simp
  first | refine alcD (fun X hX=>?_) | refine alcN (fun X hX=>?_)
  have hx1:=hX.out.1
  have hxo:=hX.out.2.1
  try have HR12:=hid (HR12.out.below hx1 hx1.size)
  try have HR17:=hid (HR17.out.below hx1 hx1.size)
  try have HR19:=hid (HR19.out.below hx1 hx1.size)
  try have HRF:=hid (HRF.out.keep (fun p hp=>hx1.cell (HSF.out _ hp)) (fun _ h=>h))
  try have HSF:=hid (fun q hq=>Nat.lt_of_lt_of_le (HSF.out q hq) hx1.size)
  try have H4:=hid (H4.out.below hx1)
  have HR17:=hid (row_objT (ts:=[xxT,xxT]) hxo (ListR.append (ListR.single (E:=treeE) (leaf19 X _ ⟨#[120]⟩ sz1)) (ListR.single (E:=treeE) (leaf19 X _ ⟨#[120]⟩ sz1))) (by simp [maxLen]) 2 rfl)
  first | have HB:=hid (HB.out.trans (hx1.mono HB.out.size)) | have HB:=hid hx1
  clear hX hx1 hxo
  refine hK.out _ _ (HB.out) (fun hHeld=>?_)
  clear hK K
  refine r1 4 (some 13) rfl (fun K hK=>?_)
  go_simp
  refine Calls.mono (aw19_q _ _ _ _) ?_
  rintro e X ⟨rfl,hx1⟩
  try have HR12:=hid (HR12.out.below hx1 hx1.size)
  try have HR17:=hid (HR17.out.below hx1 hx1.size)
  try have HR19:=hid (HR19.out.below hx1 hx1.size)
  try have HRF:=hid (HRF.out.keep (fun p hp=>hx1.cell (HSF.out _ hp)) (fun _ h=>h))
  try have HSF:=hid (fun q hq=>Nat.lt_of_lt_of_le (HSF.out q hq) hx1.size)
  try have H4:=hid (H4.out.below hx1)
  first | have HB:=hid (HB.out.trans (hx1.mono HB.out.size)) | have HB:=hid hx1
  clear hx1
  refine hK.out _ _ (HB.out) (fun hHeld=>?_)
  clear hK K
  refine r1 9 (some 18) rfl (fun K hK=>?_)
  go_simp
  refine Calls.mono (aw19_q _ _ _ _) ?_
  rintro e X ⟨rfl,hx1⟩
  try have HR12:=hid (HR12.out.below hx1 hx1.size)
  try have HR17:=hid (HR17.out.below hx1 hx1.size)
  try have HR19:=hid (HR19.out.below hx1 hx1.size)
  try have HRF:=hid (HRF.out.keep (fun p hp=>hx1.cell (HSF.out _ hp)) (fun _ h=>h))
  try have HSF:=hid (fun q hq=>Nat.lt_of_lt_of_le (HSF.out q hq) hx1.size)
  try have H4:=hid (H4.out.below hx1)
  first | have HB:=hid (HB.out.trans (hx1.mono HB.out.size)) | have HB:=hid hx1
  clear hx1
  refine hK.out _ _ (HB.out) (fun hHeld=>?_)
  clear hK K
  refine r1 10 (some 19) rfl (fun K hK=>?_)
  go_simp
  first | refine alcD (fun X hX=>?_) | refine alcN (fun X hX=>?_)
  have hx1:=hX.out.1
  have hxo:=hX.out.2.1
  try have HR12:=hid (HR12.out.below hx1 hx1.size)
  try have HR17:=hid (HR17.out.below hx1 hx1.size)
  try have HR19:=hid (HR19.out.below hx1 hx1.size)
  try have HRF:=hid (HRF.out.keep (fun p hp=>hx1.cell (HSF.out _ hp)) (fun _ h=>h))
  try have HSF:=hid (fun q hq=>Nat.lt_of_lt_of_le (HSF.out q hq) hx1.size)
  try have H4:=hid (H4.out.below hx1)
  have HR19:=hid (row_objT (ts:=[rowT [xxT,xxT]]) hxo (ListR.single (E:=treeE) (treeR_mk.2 ⟨_,rfl,by simp [In64,rowT,Tree.kind],by simp [In64,rowT,Tree.cols],Nat.zero_le _,HR17.out⟩)) (by simp [maxLen]) 1 rfl)
  first | have HB:=hid (HB.out.trans (hx1.mono HB.out.size)) | have HB:=hid hx1
  clear hX hx1 hxo
  refine hK.out _ _ (HB.out) (fun hHeld=>?_)
  clear hK K
  refine r1 11 (some 20) rfl (fun K hK=>?_)
  go_simp
  refine Calls.mono (fill19_any _ _ _ _ _ HR12.out HR19.out) ?_
  rintro e X ⟨AF,cF,SF,rfl,hvf,hsf,hx1⟩
  try have H4l:=H4.out.lt
  try have HR12:=hid (HR12.out.below hx1 hx1.size)
  try have HR17:=hid (HR17.out.below hx1 hx1.size)
  try have HR19:=hid (HR19.out.below hx1 hx1.size)
  try have HRF:=hid (HRF.out.keep (fun p hp=>hx1.cell (HSF.out _ hp)) (fun _ h=>h))
  try have HSF:=hid (fun q hq=>Nat.lt_of_lt_of_le (HSF.out q hq) hx1.size)
  try have H4:=hid (H4.out.below hx1)
  have HRF:=hid hvf
  have HSF:=hid (fun q (hq:SF q)=>(hsf q hq).2)
  try have HNF:=hid (fun q (hq:SF q)=>Nat.ne_of_gt (Nat.lt_of_lt_of_le H4l (hsf q hq).1))
  first | have HB:=hid (HB.out.trans (hx1.mono HB.out.size)) | have HB:=hid hx1
  clear hvf hx1 hsf
  refine hK.out _ _ (HB.out) (fun hHeld=>?_)
  clear hK K
  refine tk 12 8 rfl ?_
  refine tk 13 21 rfl ?_
  refine tk 14 22 rfl ?_
  refine r1 16 none rfl (fun K hK=>?_)
  rw [if_pos (by rfl)]
  refine wp_store_row 31 (.tmp 4) (.tmp 21) rfl _ _ rfl rfl 31 _ H4.out (by kernel_rfl) (by simp) (by simp [Value.oneCell']) ?_
  refine put19 H4.out (fun X hX=>?_)
  have H4:=hid hX.out.2
  have HRF:=hid (hX.out.1.reads (S':=Lt X.heap.size) HRF.out (fun k hk=>⟨HSF.out k hk,HNF.out k hk⟩) (fun k hk=>Nat.lt_of_lt_of_le (HSF.out k hk) hX.out.1.size))
  have HB:=hid (HB.out.trans (hX.out.1.below HB.out.size (fun k e=>e ▸ HG4.out)))
  clear hX
  refine hK.out _ _ (HB.out) (fun hHeld=>?_)
  clear hK K
  refine tk 17 5 rfl ?_
  refine wpAnyH_done (by kernel_rfl) ?_ _
  refine NoPanic.normal ?_
  rotate_left
  go_simp
  first | refine alcD (fun X hX=>?_) | refine alcN (fun X hX=>?_)
  have hx1:=hX.out.1
  have hxo:=hX.out.2.1
  try have HR12:=hid (HR12.out.below hx1 hx1.size)
  try have HR17:=hid (HR17.out.below hx1 hx1.size)
  try have HR19:=hid (HR19.out.below hx1 hx1.size)
  try have HRF:=hid (HRF.out.keep (fun p hp=>hx1.cell (HSF.out _ hp)) (fun _ h=>h))
  try have HSF:=hid (fun q hq=>Nat.lt_of_lt_of_le (HSF.out q hq) hx1.size)
  try have H4:=hid (H4.out.below hx1)
  have HR17:=hid (row_objT (ts:=[xxT,xxT]) hxo (ListR.append (ListR.single (E:=treeE) (leaf19 X _ ⟨#[120]⟩ sz1)) (ListR.single (E:=treeE) (leaf19 X _ ⟨#[120]⟩ sz1))) (by simp [maxLen]) 2 rfl)
  first | have HB:=hid (HB.out.trans (hx1.mono HB.out.size)) | have HB:=hid hx1
  clear hX hx1 hxo
  refine hK.out _ _ (HB.out) (fun hHeld=>?_)
  clear hK K
  refine rn [3,15] (rc (some 12) rfl (fun K hK=>?_) (rc (some 4) rfl (fun K hK=>?_) AllReadyH.nil))
  go_simp
  first | refine alcD (fun X hX=>?_) | refine alcN (fun X hX=>?_)
  have hx1:=hX.out.1
  have hxo:=hX.out.2.1
  try have HR12:=hid (HR12.out.below hx1 hx1.size)
  try have HR17:=hid (HR17.out.below hx1 hx1.size)
  try have HR19:=hid (HR19.out.below hx1 hx1.size)
  try have HRF:=hid (HRF.out.keep (fun p hp=>hx1.cell (HSF.out _ hp)) (fun _ h=>h))
  try have HSF:=hid (fun q hq=>Nat.lt_of_lt_of_le (HSF.out q hq) hx1.size)
  try have H4:=hid (H4.out.below hx1)
  have HR12:=hid (row_objT (ts:=[oneT,xxT]) hxo (ListR.append (ListR.single (E:=treeE) (leaf19 X _ ⟨#[35,49]⟩ sz2)) (ListR.single (E:=treeE) (leaf19 X _ ⟨#[120]⟩ sz1))) (by simp [maxLen]) 2 rfl)
  first | have HB:=hid (HB.out.trans (hx1.mono HB.out.size)) | have HB:=hid hx1
  clear hX hx1 hxo
  refine hK.out _ _ (HB.out) (fun hHeld=>?_)
  clear hK K
  refine rn [4,15] (rc (some 13) rfl (fun K hK=>?_) (rc (some 4) rfl (fun K hK=>?_) AllReadyH.nil))
  go_simp
  refine Calls.mono (aw19_q _ _ _ _) ?_
  rintro e X ⟨rfl,hx1⟩
  try have HR12:=hid (HR12.out.below hx1 hx1.size)
  try have HR17:=hid (HR17.out.below hx1 hx1.size)
  try have HR19:=hid (HR19.out.below hx1 hx1.size)
  try have HRF:=hid (HRF.out.keep (fun p hp=>hx1.cell (HSF.out _ hp)) (fun _ h=>h))
  try have HSF:=hid (fun q hq=>Nat.lt_of_lt_of_le (HSF.out q hq) hx1.size)
  try have H4:=hid (H4.out.below hx1)
  first | have HB:=hid (HB.out.trans (hx1.mono HB.out.size)) | have HB:=hid hx1
  clear hx1
  refine hK.out _ _ (HB.out) (fun hHeld=>?_)
  clear hK K
  refine rn [9,15] (rc (some 18) rfl (fun K hK=>?_) (rc (some 4) rfl (fun K hK=>?_) AllReadyH.nil))
  go_simp
  refine Calls.mono (aw19_q _ _ _ _) ?_
  rintro e X ⟨rfl,hx1⟩
  try have HR12:=hid (HR12.out.below hx1 hx1.size)
  try have HR17:=hid (HR17.out.below hx1 hx1.size)
  try have HR19:=hid (HR19.out.below hx1 hx1.size)
  try have HRF:=hid (HRF.out.keep (fun p hp=>hx1.cell (HSF.out _ hp)) (fun _ h=>h))
  try have HSF:=hid (fun q hq=>Nat.lt_of_lt_of_le (HSF.out q hq) hx1.size)
  try have H4:=hid (H4.out.below hx1)
  first | have HB:=hid (HB.out.trans (hx1.mono HB.out.size)) | have HB:=hid hx1
  clear hx1
  refine hK.out _ _ (HB.out) (fun hHeld=>?_)
  clear hK K
  refine rn [10,15] (rc (some 19) rfl (fun K hK=>?_) (rc (some 4) rfl (fun K hK=>?_) AllReadyH.nil))
  go_simp
  first | refine alcD (fun X hX=>?_) | refine alcN (fun X hX=>?_)
  have hx1:=hX.out.1
  have hxo:=hX.out.2.1
  try have HR12:=hid (HR12.out.below hx1 hx1.size)
  try have HR17:=hid (HR17.out.below hx1 hx1.size)
  try have HR19:=hid (HR19.out.below hx1 hx1.size)
  try have HRF:=hid (HRF.out.keep (fun p hp=>hx1.cell (HSF.out _ hp)) (fun _ h=>h))
  try have HSF:=hid (fun q hq=>Nat.lt_of_lt_of_le (HSF.out q hq) hx1.size)
  try have H4:=hid (H4.out.below hx1)
  have HR19:=hid (row_objT (ts:=[rowT [xxT,xxT]]) hxo (ListR.single (E:=treeE) (treeR_mk.2 ⟨_,rfl,by simp [In64,rowT,Tree.kind],by simp [In64,rowT,Tree.cols],Nat.zero_le _,HR17.out⟩)) (by simp [maxLen]) 1 rfl)
  first | have HB:=hid (HB.out.trans (hx1.mono HB.out.size)) | have HB:=hid hx1
  clear hX hx1 hxo
  refine hK.out _ _ (HB.out) (fun hHeld=>?_)
  clear hK K
  refine rn [11,15] (rc (some 20) rfl (fun K hK=>?_) (rc (some 4) rfl (fun K hK=>?_) AllReadyH.nil))
  go_simp
  refine Calls.mono (fill19_any _ _ _ _ _ HR12.out HR19.out) ?_
  rintro e X ⟨AF,cF,SF,rfl,hvf,hsf,hx1⟩
  try have H4l:=H4.out.lt
  try have HR12:=hid (HR12.out.below hx1 hx1.size)
  try have HR17:=hid (HR17.out.below hx1 hx1.size)
  try have HR19:=hid (HR19.out.below hx1 hx1.size)
  try have HRF:=hid (HRF.out.keep (fun p hp=>hx1.cell (HSF.out _ hp)) (fun _ h=>h))
  try have HSF:=hid (fun q hq=>Nat.lt_of_lt_of_le (HSF.out q hq) hx1.size)
  try have H4:=hid (H4.out.below hx1)
  have HRF:=hid hvf
  have HSF:=hid (fun q (hq:SF q)=>(hsf q hq).2)
  try have HNF:=hid (fun q (hq:SF q)=>Nat.ne_of_gt (Nat.lt_of_lt_of_le H4l (hsf q hq).1))
  first | have HB:=hid (HB.out.trans (hx1.mono HB.out.size)) | have HB:=hid hx1
  clear hvf hx1 hsf
  refine hK.out _ _ (HB.out) (fun hHeld=>?_)
  clear hK K
  refine tk 12 8 rfl ?_
  refine tk 13 21 rfl ?_
  refine tk 14 22 rfl ?_
  refine r1 15 (some 4) rfl (fun K hK=>?_)
  go_simp
  first | refine alcD (fun X hX=>?_) | refine alcN (fun X hX=>?_)
  have hx1:=hX.out.1
  have hxo:=hX.out.2.1
  try have HSF0:=HSF
  try have HR12:=hid (HR12.out.below hx1 hx1.size)
  try have HR17:=hid (HR17.out.below hx1 hx1.size)
  try have HR19:=hid (HR19.out.below hx1 hx1.size)
  try have HRF:=hid (HRF.out.keep (fun p hp=>hx1.cell (HSF.out _ hp)) (fun _ h=>h))
  try have HSF:=hid (fun q hq=>Nat.lt_of_lt_of_le (HSF.out q hq) hx1.size)
  try have H4:=hid (H4.out.below hx1)
  have H4:=hid hxo
  have HG4:=hid HB.out.size
  try have HNF:=hid (fun q (hq:SF q)=>Nat.ne_of_lt (HSF0.out q hq))
  first | have HB:=hid (HB.out.trans (hx1.mono HB.out.size)) | have HB:=hid hx1
  clear hX hx1 hxo
  refine hK.out _ _ (HB.out) (fun hHeld=>?_)
  clear hK K
  refine r1 16 none rfl (fun K hK=>?_)
  rw [if_pos (by rfl)]
  refine wp_store_row 31 (.tmp 4) (.tmp 21) rfl _ _ rfl rfl 31 _ H4.out (by kernel_rfl) (by simp) (by simp [Value.oneCell']) ?_
  refine put19 H4.out (fun X hX=>?_)
  have H4:=hid hX.out.2
  have HRF:=hid (hX.out.1.reads (S':=Lt X.heap.size) HRF.out (fun k hk=>⟨HSF.out k hk,HNF.out k hk⟩) (fun k hk=>Nat.lt_of_lt_of_le (HSF.out k hk) hX.out.1.size))
  have HB:=hid (HB.out.trans (hX.out.1.below HB.out.size (fun k e=>e ▸ HG4.out)))
  clear hX
  refine hK.out _ _ (HB.out) (fun hHeld=>?_)
  clear hK K
  refine tk 17 5 rfl ?_
  refine wpAnyH_done (by kernel_rfl) ?_ _
  refine NoPanic.normal ?_
  rotate_left
  go_simp
  first | refine alcD (fun X hX=>?_) | refine alcN (fun X hX=>?_)
  have hx1:=hX.out.1
  have hxo:=hX.out.2.1
  try have HSF0:=HSF
  try have HR12:=hid (HR12.out.below hx1 hx1.size)
  try have HR17:=hid (HR17.out.below hx1 hx1.size)
  try have HR19:=hid (HR19.out.below hx1 hx1.size)
  try have HRF:=hid (HRF.out.keep (fun p hp=>hx1.cell (HSF.out _ hp)) (fun _ h=>h))
  try have HSF:=hid (fun q hq=>Nat.lt_of_lt_of_le (HSF.out q hq) hx1.size)
  try have H4:=hid (H4.out.below hx1)
  have H4:=hid hxo
  have HG4:=hid HB.out.size
  try have HNF:=hid (fun q (hq:SF q)=>Nat.ne_of_lt (HSF0.out q hq))
  first | have HB:=hid (HB.out.trans (hx1.mono HB.out.size)) | have HB:=hid hx1
  clear hX hx1 hxo
  refine hK.out _ _ (HB.out) (fun hHeld=>?_)
  clear hK K
  refine r1 11 (some 20) rfl (fun K hK=>?_)
  go_simp
  refine Calls.mono (fill19_any _ _ _ _ _ HR12.out HR19.out) ?_
  rintro e X ⟨AF,cF,SF,rfl,hvf,hsf,hx1⟩
  try have H4l:=H4.out.lt
  try have HR12:=hid (HR12.out.below hx1 hx1.size)
  try have HR17:=hid (HR17.out.below hx1 hx1.size)
  try have HR19:=hid (HR19.out.below hx1 hx1.size)
  try have HRF:=hid (HRF.out.keep (fun p hp=>hx1.cell (HSF.out _ hp)) (fun _ h=>h))
  try have HSF:=hid (fun q hq=>Nat.lt_of_lt_of_le (HSF.out q hq) hx1.size)
  try have H4:=hid (H4.out.below hx1)
  have HRF:=hid hvf
  have HSF:=hid (fun q (hq:SF q)=>(hsf q hq).2)
  try have HNF:=hid (fun q (hq:SF q)=>Nat.ne_of_gt (Nat.lt_of_lt_of_le H4l (hsf q hq).1))
  first | have HB:=hid (HB.out.trans (hx1.mono HB.out.size)) | have HB:=hid hx1
  clear hvf hx1 hsf
  refine hK.out _ _ (HB.out) (fun hHeld=>?_)
  clear hK K
  refine tk 12 8 rfl ?_
  refine tk 13 21 rfl ?_
  refine tk 14 22 rfl ?_
  refine r1 16 none rfl (fun K hK=>?_)
  rw [if_pos (by rfl)]
  refine wp_store_row 31 (.tmp 4) (.tmp 21) rfl _ _ rfl rfl 31 _ H4.out (by kernel_rfl) (by simp) (by simp [Value.oneCell']) ?_
  refine put19 H4.out (fun X hX=>?_)
  have H4:=hid hX.out.2
  have HRF:=hid (hX.out.1.reads (S':=Lt X.heap.size) HRF.out (fun k hk=>⟨HSF.out k hk,HNF.out k hk⟩) (fun k hk=>Nat.lt_of_lt_of_le (HSF.out k hk) hX.out.1.size))
  have HB:=hid (HB.out.trans (hX.out.1.below HB.out.size (fun k e=>e ▸ HG4.out)))
  clear hX
  refine hK.out _ _ (HB.out) (fun hHeld=>?_)
  clear hK K
  refine tk 17 5 rfl ?_
  refine wpAnyH_done (by kernel_rfl) ?_ _
  refine NoPanic.normal ?_
  rotate_left
  go_simp
  first | refine alcD (fun X hX=>?_) | refine alcN (fun X hX=>?_)
  have hx1:=hX.out.1
  have hxo:=hX.out.2.1
  try have HSF0:=HSF
  try have HR12:=hid (HR12.out.below hx1 hx1.size)
  try have HR17:=hid (HR17.out.below hx1 hx1.size)
  try have HR19:=hid (HR19.out.below hx1 hx1.size)
  try have HRF:=hid (HRF.out.keep (fun p hp=>hx1.cell (HSF.out _ hp)) (fun _ h=>h))
  try have HSF:=hid (fun q hq=>Nat.lt_of_lt_of_le (HSF.out q hq) hx1.size)
  try have H4:=hid (H4.out.below hx1)
  have H4:=hid hxo
  have HG4:=hid HB.out.size
  try have HNF:=hid (fun q (hq:SF q)=>Nat.ne_of_lt (HSF0.out q hq))
  first | have HB:=hid (HB.out.trans (hx1.mono HB.out.size)) | have HB:=hid hx1
  clear hX hx1 hxo
  refine hK.out _ _ (HB.out) (fun hHeld=>?_)
  clear hK K
  refine r1 10 (some 19) rfl (fun K hK=>?_)
  go_simp
  first | refine alcD (fun X hX=>?_) | refine alcN (fun X hX=>?_)
  have hx1:=hX.out.1
  have hxo:=hX.out.2.1
  try have HR12:=hid (HR12.out.below hx1 hx1.size)
  try have HR17:=hid (HR17.out.below hx1 hx1.size)
  try have HR19:=hid (HR19.out.below hx1 hx1.size)
  try have HRF:=hid (HRF.out.keep (fun p hp=>hx1.cell (HSF.out _ hp)) (fun _ h=>h))
  try have HSF:=hid (fun q hq=>Nat.lt_of_lt_of_le (HSF.out q hq) hx1.size)
  try have H4:=hid (H4.out.below hx1)
  have HR19:=hid (row_objT (ts:=[rowT [xxT,xxT]]) hxo (ListR.single (E:=treeE) (treeR_mk.2 ⟨_,rfl,by simp [In64,rowT,Tree.kind],by simp [In64,rowT,Tree.cols],Nat.zero_le _,HR17.out⟩)) (by simp [maxLen]) 1 rfl)
  first | have HB:=hid (HB.out.trans (hx1.mono HB.out.size)) | have HB:=hid hx1
  clear hX hx1 hxo
  refine hK.out _ _ (HB.out) (fun hHeld=>?_)
  clear hK K
  refine r1 11 (some 20) rfl (fun K hK=>?_)
  go_simp
  refine Calls.mono (fill19_any _ _ _ _ _ HR12.out HR19.out) ?_
  rintro e X ⟨AF,cF,SF,rfl,hvf,hsf,hx1⟩
  try have H4l:=H4.out.lt
  try have HR12:=hid (HR12.out.below hx1 hx1.size)
  try have HR17:=hid (HR17.out.below hx1 hx1.size)
  try have HR19:=hid (HR19.out.below hx1 hx1.size)
  try have HRF:=hid (HRF.out.keep (fun p hp=>hx1.cell (HSF.out _ hp)) (fun _ h=>h))
  try have HSF:=hid (fun q hq=>Nat.lt_of_lt_of_le (HSF.out q hq) hx1.size)
  try have H4:=hid (H4.out.below hx1)
  have HRF:=hid hvf
  have HSF:=hid (fun q (hq:SF q)=>(hsf q hq).2)
  try have HNF:=hid (fun q (hq:SF q)=>Nat.ne_of_gt (Nat.lt_of_lt_of_le H4l (hsf q hq).1))
  first | have HB:=hid (HB.out.trans (hx1.mono HB.out.size)) | have HB:=hid hx1
  clear hvf hx1 hsf
  refine hK.out _ _ (HB.out) (fun hHeld=>?_)
  clear hK K
  refine tk 12 8 rfl ?_
  refine tk 13 21 rfl ?_
  refine tk 14 22 rfl ?_
  refine r1 16 none rfl (fun K hK=>?_)
  rw [if_pos (by rfl)]
  refine wp_store_row 31 (.tmp 4) (.tmp 21) rfl _ _ rfl rfl 31 _ H4.out (by kernel_rfl) (by simp) (by simp [Value.oneCell']) ?_
  refine put19 H4.out (fun X hX=>?_)
  have H4:=hid hX.out.2
  have HRF:=hid (hX.out.1.reads (S':=Lt X.heap.size) HRF.out (fun k hk=>⟨HSF.out k hk,HNF.out k hk⟩) (fun k hk=>Nat.lt_of_lt_of_le (HSF.out k hk) hX.out.1.size))
  have HB:=hid (HB.out.trans (hX.out.1.below HB.out.size (fun k e=>e ▸ HG4.out)))
  clear hX
  refine hK.out _ _ (HB.out) (fun hHeld=>?_)
  clear hK K
  refine tk 17 5 rfl ?_
  refine wpAnyH_done (by kernel_rfl) ?_ _
  refine NoPanic.normal ?_
  rotate_left
  go_simp
  first | refine alcD (fun X hX=>?_) | refine alcN (fun X hX=>?_)
  have hx1:=hX.out.1
  have hxo:=hX.out.2.1
  try have HSF0:=HSF
  try have HR12:=hid (HR12.out.below hx1 hx1.size)
  try have HR17:=hid (HR17.out.below hx1 hx1.size)
  try have HR19:=hid (HR19.out.below hx1 hx1.size)
  try have HRF:=hid (HRF.out.keep (fun p hp=>hx1.cell (HSF.out _ hp)) (fun _ h=>h))
  try have HSF:=hid (fun q hq=>Nat.lt_of_lt_of_le (HSF.out q hq) hx1.size)
  try have H4:=hid (H4.out.below hx1)
  have H4:=hid hxo
  have HG4:=hid HB.out.size
  try have HNF:=hid (fun q (hq:SF q)=>Nat.ne_of_lt (HSF0.out q hq))
  first | have HB:=hid (HB.out.trans (hx1.mono HB.out.size)) | have HB:=hid hx1
  clear hX hx1 hxo
  refine hK.out _ _ (HB.out) (fun hHeld=>?_)
  clear hK K
  refine r1 9 (some 18) rfl (fun K hK=>?_)
  go_simp
  refine Calls.mono (aw19_q _ _ _ _) ?_
  rintro e X ⟨rfl,hx1⟩
  try have HR12:=hid (HR12.out.below hx1 hx1.size)
  try have HR17:=hid (HR17.out.below hx1 hx1.size)
  try have HR19:=hid (HR19.out.below hx1 hx1.size)
  try have HRF:=hid (HRF.out.keep (fun p hp=>hx1.cell (HSF.out _ hp)) (fun _ h=>h))
  try have HSF:=hid (fun q hq=>Nat.lt_of_lt_of_le (HSF.out q hq) hx1.size)
  try have H4:=hid (H4.out.below hx1)
  first | have HB:=hid (HB.out.trans (hx1.mono HB.out.size)) | have HB:=hid hx1
  clear hx1
  refine hK.out _ _ (HB.out) (fun hHeld=>?_)
  clear hK K
  refine r1 10 (some 19) rfl (fun K hK=>?_)
  go_simp
  first | refine alcD (fun X hX=>?_) | refine alcN (fun X hX=>?_)
  have hx1:=hX.out.1
  have hxo:=hX.out.2.1
  try have HR12:=hid (HR12.out.below hx1 hx1.size)
  try have HR17:=hid (HR17.out.below hx1 hx1.size)
  try have HR19:=hid (HR19.out.below hx1 hx1.size)
  try have HRF:=hid (HRF.out.keep (fun p hp=>hx1.cell (HSF.out _ hp)) (fun _ h=>h))
  try have HSF:=hid (fun q hq=>Nat.lt_of_lt_of_le (HSF.out q hq) hx1.size)
  try have H4:=hid (H4.out.below hx1)
  have HR19:=hid (row_objT (ts:=[rowT [xxT,xxT]]) hxo (ListR.single (E:=treeE) (treeR_mk.2 ⟨_,rfl,by simp [In64,rowT,Tree.kind],by simp [In64,rowT,Tree.cols],Nat.zero_le _,HR17.out⟩)) (by simp [maxLen]) 1 rfl)
  first | have HB:=hid (HB.out.trans (hx1.mono HB.out.size)) | have HB:=hid hx1
  clear hX hx1 hxo
  refine hK.out _ _ (HB.out) (fun hHeld=>?_)
  clear hK K
  refine r1 11 (some 20) rfl (fun K hK=>?_)
  go_simp
  refine Calls.mono (fill19_any _ _ _ _ _ HR12.out HR19.out) ?_
  rintro e X ⟨AF,cF,SF,rfl,hvf,hsf,hx1⟩
  try have H4l:=H4.out.lt
  try have HR12:=hid (HR12.out.below hx1 hx1.size)
  try have HR17:=hid (HR17.out.below hx1 hx1.size)
  try have HR19:=hid (HR19.out.below hx1 hx1.size)
  try have HRF:=hid (HRF.out.keep (fun p hp=>hx1.cell (HSF.out _ hp)) (fun _ h=>h))
  try have HSF:=hid (fun q hq=>Nat.lt_of_lt_of_le (HSF.out q hq) hx1.size)
  try have H4:=hid (H4.out.below hx1)
  have HRF:=hid hvf
  have HSF:=hid (fun q (hq:SF q)=>(hsf q hq).2)
  try have HNF:=hid (fun q (hq:SF q)=>Nat.ne_of_gt (Nat.lt_of_lt_of_le H4l (hsf q hq).1))
  first | have HB:=hid (HB.out.trans (hx1.mono HB.out.size)) | have HB:=hid hx1
  clear hvf hx1 hsf
  refine hK.out _ _ (HB.out) (fun hHeld=>?_)
  clear hK K
  refine tk 12 8 rfl ?_
  refine tk 13 21 rfl ?_
  refine tk 14 22 rfl ?_
  refine r1 16 none rfl (fun K hK=>?_)
  rw [if_pos (by rfl)]
  refine wp_store_row 31 (.tmp 4) (.tmp 21) rfl _ _ rfl rfl 31 _ H4.out (by kernel_rfl) (by simp) (by simp [Value.oneCell']) ?_
  refine put19 H4.out (fun X hX=>?_)
  have H4:=hid hX.out.2
  have HRF:=hid (hX.out.1.reads (S':=Lt X.heap.size) HRF.out (fun k hk=>⟨HSF.out k hk,HNF.out k hk⟩) (fun k hk=>Nat.lt_of_lt_of_le (HSF.out k hk) hX.out.1.size))
  have HB:=hid (HB.out.trans (hX.out.1.below HB.out.size (fun k e=>e ▸ HG4.out)))
  clear hX
  refine hK.out _ _ (HB.out) (fun hHeld=>?_)
  clear hK K
  refine tk 17 5 rfl ?_
  refine wpAnyH_done (by kernel_rfl) ?_ _
  refine NoPanic.normal ?_
  rotate_left
  go_simp
  first | refine alcD (fun X hX=>?_) | refine alcN (fun X hX=>?_)
  have hx1:=hX.out.1
  have hxo:=hX.out.2.1
  try have HSF0:=HSF
  try have HR12:=hid (HR12.out.below hx1 hx1.size)
  try have HR17:=hid (HR17.out.below hx1 hx1.size)
  try have HR19:=hid (HR19.out.below hx1 hx1.size)
  try have HRF:=hid (HRF.out.keep (fun p hp=>hx1.cell (HSF.out _ hp)) (fun _ h=>h))
  try have HSF:=hid (fun q hq=>Nat.lt_of_lt_of_le (HSF.out q hq) hx1.size)
  try have H4:=hid (H4.out.below hx1)
  have H4:=hid hxo
  have HG4:=hid HB.out.size
  try have HNF:=hid (fun q (hq:SF q)=>Nat.ne_of_lt (HSF0.out q hq))
  first | have HB:=hid (HB.out.trans (hx1.mono HB.out.size)) | have HB:=hid hx1
  clear hX hx1 hxo
  refine hK.out _ _ (HB.out) (fun hHeld=>?_)
  clear hK K
  refine r1 4 (some 13) rfl (fun K hK=>?_)
  go_simp
  refine Calls.mono (aw19_q _ _ _ _) ?_
  rintro e X ⟨rfl,hx1⟩
  try have HR12:=hid (HR12.out.below hx1 hx1.size)
  try have HR17:=hid (HR17.out.below hx1 hx1.size)
  try have HR19:=hid (HR19.out.below hx1 hx1.size)
  try have HRF:=hid (HRF.out.keep (fun p hp=>hx1.cell (HSF.out _ hp)) (fun _ h=>h))
  try have HSF:=hid (fun q hq=>Nat.lt_of_lt_of_le (HSF.out q hq) hx1.size)
  try have H4:=hid (H4.out.below hx1)
  first | have HB:=hid (HB.out.trans (hx1.mono HB.out.size)) | have HB:=hid hx1
  clear hx1
  refine hK.out _ _ (HB.out) (fun hHeld=>?_)
  clear hK K
  refine r1 9 (some 18) rfl (fun K hK=>?_)
  go_simp
  refine Calls.mono (aw19_q _ _ _ _) ?_
  rintro e X ⟨rfl,hx1⟩
  try have HR12:=hid (HR12.out.below hx1 hx1.size)
  try have HR17:=hid (HR17.out.below hx1 hx1.size)
  try have HR19:=hid (HR19.out.below hx1 hx1.size)
  try have HRF:=hid (HRF.out.keep (fun p hp=>hx1.cell (HSF.out _ hp)) (fun _ h=>h))
  try have HSF:=hid (fun q hq=>Nat.lt_of_lt_of_le (HSF.out q hq) hx1.size)
  try have H4:=hid (H4.out.below hx1)
  first | have HB:=hid (HB.out.trans (hx1.mono HB.out.size)) | have HB:=hid hx1
  clear hx1
  refine hK.out _ _ (HB.out) (fun hHeld=>?_)
  clear hK K
  refine r1 10 (some 19) rfl (fun K hK=>?_)
  go_simp
  first | refine alcD (fun X hX=>?_) | refine alcN (fun X hX=>?_)
  have hx1:=hX.out.1
  have hxo:=hX.out.2.1
  try have HR12:=hid (HR12.out.below hx1 hx1.size)
  try have HR17:=hid (HR17.out.below hx1 hx1.size)
  try have HR19:=hid (HR19.out.below hx1 hx1.size)
  try have HRF:=hid (HRF.out.keep (fun p hp=>hx1.cell (HSF.out _ hp)) (fun _ h=>h))
  try have HSF:=hid (fun q hq=>Nat.lt_of_lt_of_le (HSF.out q hq) hx1.size)
  try have H4:=hid (H4.out.below hx1)
  have HR19:=hid (row_objT (ts:=[rowT [xxT,xxT]]) hxo (ListR.single (E:=treeE) (treeR_mk.2 ⟨_,rfl,by simp [In64,rowT,Tree.kind],by simp [In64,rowT,Tree.cols],Nat.zero_le _,HR17.out⟩)) (by simp [maxLen]) 1 rfl)
  first | have HB:=hid (HB.out.trans (hx1.mono HB.out.size)) | have HB:=hid hx1
  clear hX hx1 hxo
  refine hK.out _ _ (HB.out) (fun hHeld=>?_)
  clear hK K
  refine r1 11 (some 20) rfl (fun K hK=>?_)
  go_simp
  refine Calls.mono (fill19_any _ _ _ _ _ HR12.out HR19.out) ?_
  rintro e X ⟨AF,cF,SF,rfl,hvf,hsf,hx1⟩
  try have H4l:=H4.out.lt
  try have HR12:=hid (HR12.out.below hx1 hx1.size)
  try have HR17:=hid (HR17.out.below hx1 hx1.size)
  try have HR19:=hid (HR19.out.below hx1 hx1.size)
  try have HRF:=hid (HRF.out.keep (fun p hp=>hx1.cell (HSF.out _ hp)) (fun _ h=>h))
  try have HSF:=hid (fun q hq=>Nat.lt_of_lt_of_le (HSF.out q hq) hx1.size)
  try have H4:=hid (H4.out.below hx1)
  have HRF:=hid hvf
  have HSF:=hid (fun q (hq:SF q)=>(hsf q hq).2)
  try have HNF:=hid (fun q (hq:SF q)=>Nat.ne_of_gt (Nat.lt_of_lt_of_le H4l (hsf q hq).1))
  first | have HB:=hid (HB.out.trans (hx1.mono HB.out.size)) | have HB:=hid hx1
  clear hvf hx1 hsf
  refine hK.out _ _ (HB.out) (fun hHeld=>?_)
  clear hK K
  refine tk 12 8 rfl ?_
  refine tk 13 21 rfl ?_
  refine tk 14 22 rfl ?_
  refine r1 16 none rfl (fun K hK=>?_)
  rw [if_pos (by rfl)]
  refine wp_store_row 31 (.tmp 4) (.tmp 21) rfl _ _ rfl rfl 31 _ H4.out (by kernel_rfl) (by simp) (by simp [Value.oneCell']) ?_
  refine put19 H4.out (fun X hX=>?_)
  have H4:=hid hX.out.2
  have HRF:=hid (hX.out.1.reads (S':=Lt X.heap.size) HRF.out (fun k hk=>⟨HSF.out k hk,HNF.out k hk⟩) (fun k hk=>Nat.lt_of_lt_of_le (HSF.out k hk) hX.out.1.size))
  have HB:=hid (HB.out.trans (hX.out.1.below HB.out.size (fun k e=>e ▸ HG4.out)))
  clear hX
  refine hK.out _ _ (HB.out) (fun hHeld=>?_)
  clear hK K
  refine tk 17 5 rfl ?_
  refine wpAnyH_done (by kernel_rfl) ?_ _
  refine NoPanic.normal ?_
  rotate_left
  go_simp
  first | refine alcD (fun X hX=>?_) | refine alcN (fun X hX=>?_)
  have hx1:=hX.out.1
  have hxo:=hX.out.2.1
  try have HSF0:=HSF
  try have HR12:=hid (HR12.out.below hx1 hx1.size)
  try have HR17:=hid (HR17.out.below hx1 hx1.size)
  try have HR19:=hid (HR19.out.below hx1 hx1.size)
  try have HRF:=hid (HRF.out.keep (fun p hp=>hx1.cell (HSF.out _ hp)) (fun _ h=>h))
  try have HSF:=hid (fun q hq=>Nat.lt_of_lt_of_le (HSF.out q hq) hx1.size)
  try have H4:=hid (H4.out.below hx1)
  have H4:=hid hxo
  have HG4:=hid HB.out.size
  try have HNF:=hid (fun q (hq:SF q)=>Nat.ne_of_lt (HSF0.out q hq))
  first | have HB:=hid (HB.out.trans (hx1.mono HB.out.size)) | have HB:=hid hx1
  clear hX hx1 hxo
  refine hK.out _ _ (HB.out) (fun hHeld=>?_)
  clear hK K
  refine r1 3 (some 12) rfl (fun K hK=>?_)
  go_simp
  first | refine alcD (fun X hX=>?_) | refine alcN (fun X hX=>?_)
  have hx1:=hX.out.1
  have hxo:=hX.out.2.1
  try have HR12:=hid (HR12.out.below hx1 hx1.size)
  try have HR17:=hid (HR17.out.below hx1 hx1.size)
  try have HR19:=hid (HR19.out.below hx1 hx1.size)
  try have HRF:=hid (HRF.out.keep (fun p hp=>hx1.cell (HSF.out _ hp)) (fun _ h=>h))
  try have HSF:=hid (fun q hq=>Nat.lt_of_lt_of_le (HSF.out q hq) hx1.size)
  try have H4:=hid (H4.out.below hx1)
  have HR12:=hid (row_objT (ts:=[oneT,xxT]) hxo (ListR.append (ListR.single (E:=treeE) (leaf19 X _ ⟨#[35,49]⟩ sz2)) (ListR.single (E:=treeE) (leaf19 X _ ⟨#[120]⟩ sz1))) (by simp [maxLen]) 2 rfl)
  first | have HB:=hid (HB.out.trans (hx1.mono HB.out.size)) | have HB:=hid hx1
  clear hX hx1 hxo
  refine hK.out _ _ (HB.out) (fun hHeld=>?_)
  clear hK K
  refine r1 4 (some 13) rfl (fun K hK=>?_)
  go_simp
  refine Calls.mono (aw19_q _ _ _ _) ?_
  rintro e X ⟨rfl,hx1⟩
  try have HR12:=hid (HR12.out.below hx1 hx1.size)
  try have HR17:=hid (HR17.out.below hx1 hx1.size)
  try have HR19:=hid (HR19.out.below hx1 hx1.size)
  try have HRF:=hid (HRF.out.keep (fun p hp=>hx1.cell (HSF.out _ hp)) (fun _ h=>h))
  try have HSF:=hid (fun q hq=>Nat.lt_of_lt_of_le (HSF.out q hq) hx1.size)
  try have H4:=hid (H4.out.below hx1)
  first | have HB:=hid (HB.out.trans (hx1.mono HB.out.size)) | have HB:=hid hx1
  clear hx1
  refine hK.out _ _ (HB.out) (fun hHeld=>?_)
  clear hK K
  refine r1 9 (some 18) rfl (fun K hK=>?_)
  go_simp
  refine Calls.mono (aw19_q _ _ _ _) ?_
  rintro e X ⟨rfl,hx1⟩
  try have HR12:=hid (HR12.out.below hx1 hx1.size)
  try have HR17:=hid (HR17.out.below hx1 hx1.size)
  try have HR19:=hid (HR19.out.below hx1 hx1.size)
  try have HRF:=hid (HRF.out.keep (fun p hp=>hx1.cell (HSF.out _ hp)) (fun _ h=>h))
  try have HSF:=hid (fun q hq=>Nat.lt_of_lt_of_le (HSF.out q hq) hx1.size)
  try have H4:=hid (H4.out.below hx1)
  first | have HB:=hid (HB.out.trans (hx1.mono HB.out.size)) | have HB:=hid hx1
  clear hx1
  refine hK.out _ _ (HB.out) (fun hHeld=>?_)
  clear hK K
  refine r1 10 (some 19) rfl (fun K hK=>?_)
  go_simp
  first | refine alcD (fun X hX=>?_) | refine alcN (fun X hX=>?_)
  have hx1:=hX.out.1
  have hxo:=hX.out.2.1
  try have HR12:=hid (HR12.out.below hx1 hx1.size)
  try have HR17:=hid (HR17.out.below hx1 hx1.size)
  try have HR19:=hid (HR19.out.below hx1 hx1.size)
  try have HRF:=hid (HRF.out.keep (fun p hp=>hx1.cell (HSF.out _ hp)) (fun _ h=>h))
  try have HSF:=hid (fun q hq=>Nat.lt_of_lt_of_le (HSF.out q hq) hx1.size)
  try have H4:=hid (H4.out.below hx1)
  have HR19:=hid (row_objT (ts:=[rowT [xxT,xxT]]) hxo (ListR.single (E:=treeE) (treeR_mk.2 ⟨_,rfl,by simp [In64,rowT,Tree.kind],by simp [In64,rowT,Tree.cols],Nat.zero_le _,HR17.out⟩)) (by simp [maxLen]) 1 rfl)
  first | have HB:=hid (HB.out.trans (hx1.mono HB.out.size)) | have HB:=hid hx1
  clear hX hx1 hxo
  refine hK.out _ _ (HB.out) (fun hHeld=>?_)
  clear hK K
  refine r1 11 (some 20) rfl (fun K hK=>?_)
  go_simp
  refine Calls.mono (fill19_any _ _ _ _ _ HR12.out HR19.out) ?_
  rintro e X ⟨AF,cF,SF,rfl,hvf,hsf,hx1⟩
  try have H4l:=H4.out.lt
  try have HR12:=hid (HR12.out.below hx1 hx1.size)
  try have HR17:=hid (HR17.out.below hx1 hx1.size)
  try have HR19:=hid (HR19.out.below hx1 hx1.size)
  try have HRF:=hid (HRF.out.keep (fun p hp=>hx1.cell (HSF.out _ hp)) (fun _ h=>h))
  try have HSF:=hid (fun q hq=>Nat.lt_of_lt_of_le (HSF.out q hq) hx1.size)
  try have H4:=hid (H4.out.below hx1)
  have HRF:=hid hvf
  have HSF:=hid (fun q (hq:SF q)=>(hsf q hq).2)
  try have HNF:=hid (fun q (hq:SF q)=>Nat.ne_of_gt (Nat.lt_of_lt_of_le H4l (hsf q hq).1))
  first | have HB:=hid (HB.out.trans (hx1.mono HB.out.size)) | have HB:=hid hx1
  clear hvf hx1 hsf
  refine hK.out _ _ (HB.out) (fun hHeld=>?_)
  clear hK K
  refine tk 12 8 rfl ?_
  refine tk 13 21 rfl ?_
  refine tk 14 22 rfl ?_
  refine r1 16 none rfl (fun K hK=>?_)
  rw [if_pos (by rfl)]
  refine wp_store_row 31 (.tmp 4) (.tmp 21) rfl _ _ rfl rfl 31 _ H4.out (by kernel_rfl) (by simp) (by simp [Value.oneCell']) ?_
  refine put19 H4.out (fun X hX=>?_)
  have H4:=hid hX.out.2
  have HRF:=hid (hX.out.1.reads (S':=Lt X.heap.size) HRF.out (fun k hk=>⟨HSF.out k hk,HNF.out k hk⟩) (fun k hk=>Nat.lt_of_lt_of_le (HSF.out k hk) hX.out.1.size))
  have HB:=hid (HB.out.trans (hX.out.1.below HB.out.size (fun k e=>e ▸ HG4.out)))
  clear hX
  refine hK.out _ _ (HB.out) (fun hHeld=>?_)
  clear hK K
  refine tk 17 5 rfl ?_
  refine wpAnyH_done (by kernel_rfl) ?_ _
  refine NoPanic.normal ?_
  rotate_left
  go_simp
  first | refine alcD (fun X hX=>?_) | refine alcN (fun X hX=>?_)
  have hx1:=hX.out.1
  have hxo:=hX.out.2.1
  try have HSF0:=HSF
  try have HR12:=hid (HR12.out.below hx1 hx1.size)
  try have HR17:=hid (HR17.out.below hx1 hx1.size)
  try have HR19:=hid (HR19.out.below hx1 hx1.size)
  try have HRF:=hid (HRF.out.keep (fun p hp=>hx1.cell (HSF.out _ hp)) (fun _ h=>h))
  try have HSF:=hid (fun q hq=>Nat.lt_of_lt_of_le (HSF.out q hq) hx1.size)
  try have H4:=hid (H4.out.below hx1)
  have H4:=hid hxo
  have HG4:=hid HB.out.size
  try have HNF:=hid (fun q (hq:SF q)=>Nat.ne_of_lt (HSF0.out q hq))
  first | have HB:=hid (HB.out.trans (hx1.mono HB.out.size)) | have HB:=hid hx1
  clear hX hx1 hxo
  refine hK.out _ _ (HB.out) (fun hHeld=>?_)
  clear hK K
  refine rn [3,8] (rc (some 12) rfl (fun K hK=>?_) (rc (some 17) rfl (fun K hK=>?_) AllReadyH.nil))
  go_simp
  first | refine alcD (fun X hX=>?_) | refine alcN (fun X hX=>?_)
  have hx1:=hX.out.1
  have hxo:=hX.out.2.1
  try have HR12:=hid (HR12.out.below hx1 hx1.size)
  try have HR17:=hid (HR17.out.below hx1 hx1.size)
  try have HR19:=hid (HR19.out.below hx1 hx1.size)
  try have HRF:=hid (HRF.out.keep (fun p hp=>hx1.cell (HSF.out _ hp)) (fun _ h=>h))
  try have HSF:=hid (fun q hq=>Nat.lt_of_lt_of_le (HSF.out q hq) hx1.size)
  try have H4:=hid (H4.out.below hx1)
  have HR12:=hid (row_objT (ts:=[oneT,xxT]) hxo (ListR.append (ListR.single (E:=treeE) (leaf19 X _ ⟨#[35,49]⟩ sz2)) (ListR.single (E:=treeE) (leaf19 X _ ⟨#[120]⟩ sz1))) (by simp [maxLen]) 2 rfl)
  first | have HB:=hid (HB.out.trans (hx1.mono HB.out.size)) | have HB:=hid hx1
  clear hX hx1 hxo
  refine hK.out _ _ (HB.out) (fun hHeld=>?_)
  clear hK K
  refine rn [4,8] (rc (some 13) rfl (fun K hK=>?_) (rc (some 17) rfl (fun K hK=>?_) AllReadyH.nil))
  go_simp
  refine Calls.mono (aw19_q _ _ _ _) ?_
  rintro e X ⟨rfl,hx1⟩
  try have HR12:=hid (HR12.out.below hx1 hx1.size)
  try have HR17:=hid (HR17.out.below hx1 hx1.size)
  try have HR19:=hid (HR19.out.below hx1 hx1.size)
  try have HRF:=hid (HRF.out.keep (fun p hp=>hx1.cell (HSF.out _ hp)) (fun _ h=>h))
  try have HSF:=hid (fun q hq=>Nat.lt_of_lt_of_le (HSF.out q hq) hx1.size)
  try have H4:=hid (H4.out.below hx1)
  first | have HB:=hid (HB.out.trans (hx1.mono HB.out.size)) | have HB:=hid hx1
  clear hx1
  refine hK.out _ _ (HB.out) (fun hHeld=>?_)
  clear hK K
  refine r1 8 (some 17) rfl (fun K hK=>?_)
  go_simp
  first | refine alcD (fun X hX=>?_) | refine alcN (fun X hX=>?_)
  have hx1:=hX.out.1
  have hxo:=hX.out.2.1
  try have HR12:=hid (HR12.out.below hx1 hx1.size)
  try have HR17:=hid (HR17.out.below hx1 hx1.size)
  try have HR19:=hid (HR19.out.below hx1 hx1.size)
  try have HRF:=hid (HRF.out.keep (fun p hp=>hx1.cell (HSF.out _ hp)) (fun _ h=>h))
  try have HSF:=hid (fun q hq=>Nat.lt_of_lt_of_le (HSF.out q hq) hx1.size)
  try have H4:=hid (H4.out.below hx1)
  have HR17:=hid (row_objT (ts:=[xxT,xxT]) hxo (ListR.append (ListR.single (E:=treeE) (leaf19 X _ ⟨#[120]⟩ sz1)) (ListR.single (E:=treeE) (leaf19 X _ ⟨#[120]⟩ sz1))) (by simp [maxLen]) 2 rfl)
  first | have HB:=hid (HB.out.trans (hx1.mono HB.out.size)) | have HB:=hid hx1
  clear hX hx1 hxo
  refine hK.out _ _ (HB.out) (fun hHeld=>?_)
  clear hK K
  refine r1 9 (some 18) rfl (fun K hK=>?_)
  go_simp
  refine Calls.mono (aw19_q _ _ _ _) ?_
  rintro e X ⟨rfl,hx1⟩
  try have HR12:=hid (HR12.out.below hx1 hx1.size)
  try have HR17:=hid (HR17.out.below hx1 hx1.size)
  try have HR19:=hid (HR19.out.below hx1 hx1.size)
  try have HRF:=hid (HRF.out.keep (fun p hp=>hx1.cell (HSF.out _ hp)) (fun _ h=>h))
  try have HSF:=hid (fun q hq=>Nat.lt_of_lt_of_le (HSF.out q hq) hx1.size)
  try have H4:=hid (H4.out.below hx1)
  first | have HB:=hid (HB.out.trans (hx1.mono HB.out.size)) | have HB:=hid hx1
  clear hx1
  refine hK.out _ _ (HB.out) (fun hHeld=>?_)
  clear hK K
  refine r1 10 (some 19) rfl (fun K hK=>?_)
  go_simp
  first | refine alcD (fun X hX=>?_) | refine alcN (fun X hX=>?_)
  have hx1:=hX.out.1
  have hxo:=hX.out.2.1
  try have HR12:=hid (HR12.out.below hx1 hx1.size)
  try have HR17:=hid (HR17.out.below hx1 hx1.size)
  try have HR19:=hid (HR19.out.below hx1 hx1.size)
  try have HRF:=hid (HRF.out.keep (fun p hp=>hx1.cell (HSF.out _ hp)) (fun _ h=>h))
  try have HSF:=hid (fun q hq=>Nat.lt_of_lt_of_le (HSF.out q hq) hx1.size)
  try have H4:=hid (H4.out.below hx1)
  have HR19:=hid (row_objT (ts:=[rowT [xxT,xxT]]) hxo (ListR.single (E:=treeE) (treeR_mk.2 ⟨_,rfl,by simp [In64,rowT,Tree.kind],by simp [In64,rowT,Tree.cols],Nat.zero_le _,HR17.out⟩)) (by simp [maxLen]) 1 rfl)
  first | have HB:=hid (HB.out.trans (hx1.mono HB.out.size)) | have HB:=hid hx1
  clear hX hx1 hxo
  refine hK.out _ _ (HB.out) (fun hHeld=>?_)
  clear hK K
  refine r1 11 (some 20) rfl (fun K hK=>?_)
  go_simp
  refine Calls.mono (fill19_any _ _ _ _ _ HR12.out HR19.out) ?_
  rintro e X ⟨AF,cF,SF,rfl,hvf,hsf,hx1⟩
  try have H4l:=H4.out.lt
  try have HR12:=hid (HR12.out.below hx1 hx1.size)
  try have HR17:=hid (HR17.out.below hx1 hx1.size)
  try have HR19:=hid (HR19.out.below hx1 hx1.size)
  try have HRF:=hid (HRF.out.keep (fun p hp=>hx1.cell (HSF.out _ hp)) (fun _ h=>h))
  try have HSF:=hid (fun q hq=>Nat.lt_of_lt_of_le (HSF.out q hq) hx1.size)
  try have H4:=hid (H4.out.below hx1)
  have HRF:=hid hvf
  have HSF:=hid (fun q (hq:SF q)=>(hsf q hq).2)
  try have HNF:=hid (fun q (hq:SF q)=>Nat.ne_of_gt (Nat.lt_of_lt_of_le H4l (hsf q hq).1))
  first | have HB:=hid (HB.out.trans (hx1.mono HB.out.size)) | have HB:=hid hx1
  clear hvf hx1 hsf
  refine hK.out _ _ (HB.out) (fun hHeld=>?_)
  clear hK K
  refine tk 12 8 rfl ?_
  refine tk 13 21 rfl ?_
  refine tk 14 22 rfl ?_
  refine r1 16 none rfl (fun K hK=>?_)
  rw [if_pos (by rfl)]
  refine wp_store_row 31 (.tmp 4) (.tmp 21) rfl _ _ rfl rfl 31 _ H4.out (by kernel_rfl) (by simp) (by simp [Value.oneCell']) ?_
  refine put19 H4.out (fun X hX=>?_)
  have H4:=hid hX.out.2
  have HRF:=hid (hX.out.1.reads (S':=Lt X.heap.size) HRF.out (fun k hk=>⟨HSF.out k hk,HNF.out k hk⟩) (fun k hk=>Nat.lt_of_lt_of_le (HSF.out k hk) hX.out.1.size))
  have HB:=hid (HB.out.trans (hX.out.1.below HB.out.size (fun k e=>e ▸ HG4.out)))
  clear hX
  refine hK.out _ _ (HB.out) (fun hHeld=>?_)
  clear hK K
  refine tk 17 5 rfl ?_
  refine wpAnyH_done (by kernel_rfl) ?_ _
  refine NoPanic.normal ?_
  rotate_left
  go_simp
  first | refine alcD (fun X hX=>?_) | refine alcN (fun X hX=>?_)
  have hx1:=hX.out.1
  have hxo:=hX.out.2.1
  try have HR12:=hid (HR12.out.below hx1 hx1.size)
  try have HR17:=hid (HR17.out.below hx1 hx1.size)
  try have HR19:=hid (HR19.out.below hx1 hx1.size)
  try have HRF:=hid (HRF.out.keep (fun p hp=>hx1.cell (HSF.out _ hp)) (fun _ h=>h))
  try have HSF:=hid (fun q hq=>Nat.lt_of_lt_of_le (HSF.out q hq) hx1.size)
  try have H4:=hid (H4.out.below hx1)
  have HR17:=hid (row_objT (ts:=[xxT,xxT]) hxo (ListR.append (ListR.single (E:=treeE) (leaf19 X _ ⟨#[120]⟩ sz1)) (ListR.single (E:=treeE) (leaf19 X _ ⟨#[120]⟩ sz1))) (by simp [maxLen]) 2 rfl)
  first | have HB:=hid (HB.out.trans (hx1.mono HB.out.size)) | have HB:=hid hx1
  clear hX hx1 hxo
  refine hK.out _ _ (HB.out) (fun hHeld=>?_)
  clear hK K
  refine r1 4 (some 13) rfl (fun K hK=>?_)
  go_simp
  refine Calls.mono (aw19_q _ _ _ _) ?_
  rintro e X ⟨rfl,hx1⟩
  try have HR12:=hid (HR12.out.below hx1 hx1.size)
  try have HR17:=hid (HR17.out.below hx1 hx1.size)
  try have HR19:=hid (HR19.out.below hx1 hx1.size)
  try have HRF:=hid (HRF.out.keep (fun p hp=>hx1.cell (HSF.out _ hp)) (fun _ h=>h))
  try have HSF:=hid (fun q hq=>Nat.lt_of_lt_of_le (HSF.out q hq) hx1.size)
  try have H4:=hid (H4.out.below hx1)
  first | have HB:=hid (HB.out.trans (hx1.mono HB.out.size)) | have HB:=hid hx1
  clear hx1
  refine hK.out _ _ (HB.out) (fun hHeld=>?_)
  clear hK K
  refine r1 9 (some 18) rfl (fun K hK=>?_)
  go_simp
  refine Calls.mono (aw19_q _ _ _ _) ?_
  rintro e X ⟨rfl,hx1⟩
  try have HR12:=hid (HR12.out.below hx1 hx1.size)
  try have HR17:=hid (HR17.out.below hx1 hx1.size)
  try have HR19:=hid (HR19.out.below hx1 hx1.size)
  try have HRF:=hid (HRF.out.keep (fun p hp=>hx1.cell (HSF.out _ hp)) (fun _ h=>h))
  try have HSF:=hid (fun q hq=>Nat.lt_of_lt_of_le (HSF.out q hq) hx1.size)
  try have H4:=hid (H4.out.below hx1)
  first | have HB:=hid (HB.out.trans (hx1.mono HB.out.size)) | have HB:=hid hx1
  clear hx1
  refine hK.out _ _ (HB.out) (fun hHeld=>?_)
  clear hK K
  refine r1 10 (some 19) rfl (fun K hK=>?_)
  go_simp
  first | refine alcD (fun X hX=>?_) | refine alcN (fun X hX=>?_)
  have hx1:=hX.out.1
  have hxo:=hX.out.2.1
  try have HR12:=hid (HR12.out.below hx1 hx1.size)
  try have HR17:=hid (HR17.out.below hx1 hx1.size)
  try have HR19:=hid (HR19.out.below hx1 hx1.size)
  try have HRF:=hid (HRF.out.keep (fun p hp=>hx1.cell (HSF.out _ hp)) (fun _ h=>h))
  try have HSF:=hid (fun q hq=>Nat.lt_of_lt_of_le (HSF.out q hq) hx1.size)
  try have H4:=hid (H4.out.below hx1)
  have HR19:=hid (row_objT (ts:=[rowT [xxT,xxT]]) hxo (ListR.single (E:=treeE) (treeR_mk.2 ⟨_,rfl,by simp [In64,rowT,Tree.kind],by simp [In64,rowT,Tree.cols],Nat.zero_le _,HR17.out⟩)) (by simp [maxLen]) 1 rfl)
  first | have HB:=hid (HB.out.trans (hx1.mono HB.out.size)) | have HB:=hid hx1
  clear hX hx1 hxo
  refine hK.out _ _ (HB.out) (fun hHeld=>?_)
  clear hK K
  refine r1 11 (some 20) rfl (fun K hK=>?_)
  go_simp
  refine Calls.mono (fill19_any _ _ _ _ _ HR12.out HR19.out) ?_
  rintro e X ⟨AF,cF,SF,rfl,hvf,hsf,hx1⟩
  try have H4l:=H4.out.lt
  try have HR12:=hid (HR12.out.below hx1 hx1.size)
  try have HR17:=hid (HR17.out.below hx1 hx1.size)
  try have HR19:=hid (HR19.out.below hx1 hx1.size)
  try have HRF:=hid (HRF.out.keep (fun p hp=>hx1.cell (HSF.out _ hp)) (fun _ h=>h))
  try have HSF:=hid (fun q hq=>Nat.lt_of_lt_of_le (HSF.out q hq) hx1.size)
  try have H4:=hid (H4.out.below hx1)
  have HRF:=hid hvf
  have HSF:=hid (fun q (hq:SF q)=>(hsf q hq).2)
  try have HNF:=hid (fun q (hq:SF q)=>Nat.ne_of_gt (Nat.lt_of_lt_of_le H4l (hsf q hq).1))
  first | have HB:=hid (HB.out.trans (hx1.mono HB.out.size)) | have HB:=hid hx1
  clear hvf hx1 hsf
  refine hK.out _ _ (HB.out) (fun hHeld=>?_)
  clear hK K
  refine tk 12 8 rfl ?_
  refine tk 13 21 rfl ?_
  refine tk 14 22 rfl ?_
  refine r1 16 none rfl (fun K hK=>?_)
  rw [if_pos (by rfl)]
  refine wp_store_row 31 (.tmp 4) (.tmp 21) rfl _ _ rfl rfl 31 _ H4.out (by kernel_rfl) (by simp) (by simp [Value.oneCell']) ?_
  refine put19 H4.out (fun X hX=>?_)
  have H4:=hid hX.out.2
  have HRF:=hid (hX.out.1.reads (S':=Lt X.heap.size) HRF.out (fun k hk=>⟨HSF.out k hk,HNF.out k hk⟩) (fun k hk=>Nat.lt_of_lt_of_le (HSF.out k hk) hX.out.1.size))
  have HB:=hid (HB.out.trans (hX.out.1.below HB.out.size (fun k e=>e ▸ HG4.out)))
  clear hX
  refine hK.out _ _ (HB.out) (fun hHeld=>?_)
  clear hK K
  refine tk 17 5 rfl ?_
  refine wpAnyH_done (by kernel_rfl) ?_ _
  refine NoPanic.normal ?_
  rotate_left
  go_simp
  first | refine alcD (fun X hX=>?_) | refine alcN (fun X hX=>?_)
  have hx1:=hX.out.1
  have hxo:=hX.out.2.1
  try have HR12:=hid (HR12.out.below hx1 hx1.size)
  try have HR17:=hid (HR17.out.below hx1 hx1.size)
  try have HR19:=hid (HR19.out.below hx1 hx1.size)
  try have HRF:=hid (HRF.out.keep (fun p hp=>hx1.cell (HSF.out _ hp)) (fun _ h=>h))
  try have HSF:=hid (fun q hq=>Nat.lt_of_lt_of_le (HSF.out q hq) hx1.size)
  try have H4:=hid (H4.out.below hx1)
  have HR17:=hid (row_objT (ts:=[xxT,xxT]) hxo (ListR.append (ListR.single (E:=treeE) (leaf19 X _ ⟨#[120]⟩ sz1)) (ListR.single (E:=treeE) (leaf19 X _ ⟨#[120]⟩ sz1))) (by simp [maxLen]) 2 rfl)
  first | have HB:=hid (HB.out.trans (hx1.mono HB.out.size)) | have HB:=hid hx1
  clear hX hx1 hxo
  refine hK.out _ _ (HB.out) (fun hHeld=>?_)
  clear hK K
  refine r1 3 (some 12) rfl (fun K hK=>?_)
  go_simp
  first | refine alcD (fun X hX=>?_) | refine alcN (fun X hX=>?_)
  have hx1:=hX.out.1
  have hxo:=hX.out.2.1
  try have HR12:=hid (HR12.out.below hx1 hx1.size)
  try have HR17:=hid (HR17.out.below hx1 hx1.size)
  try have HR19:=hid (HR19.out.below hx1 hx1.size)
  try have HRF:=hid (HRF.out.keep (fun p hp=>hx1.cell (HSF.out _ hp)) (fun _ h=>h))
  try have HSF:=hid (fun q hq=>Nat.lt_of_lt_of_le (HSF.out q hq) hx1.size)
  try have H4:=hid (H4.out.below hx1)
  have HR12:=hid (row_objT (ts:=[oneT,xxT]) hxo (ListR.append (ListR.single (E:=treeE) (leaf19 X _ ⟨#[35,49]⟩ sz2)) (ListR.single (E:=treeE) (leaf19 X _ ⟨#[120]⟩ sz1))) (by simp [maxLen]) 2 rfl)
  first | have HB:=hid (HB.out.trans (hx1.mono HB.out.size)) | have HB:=hid hx1
  clear hX hx1 hxo
  refine hK.out _ _ (HB.out) (fun hHeld=>?_)
  clear hK K
  refine r1 4 (some 13) rfl (fun K hK=>?_)
  go_simp
  refine Calls.mono (aw19_q _ _ _ _) ?_
  rintro e X ⟨rfl,hx1⟩
  try have HR12:=hid (HR12.out.below hx1 hx1.size)
  try have HR17:=hid (HR17.out.below hx1 hx1.size)
  try have HR19:=hid (HR19.out.below hx1 hx1.size)
  try have HRF:=hid (HRF.out.keep (fun p hp=>hx1.cell (HSF.out _ hp)) (fun _ h=>h))
  try have HSF:=hid (fun q hq=>Nat.lt_of_lt_of_le (HSF.out q hq) hx1.size)
  try have H4:=hid (H4.out.below hx1)
  first | have HB:=hid (HB.out.trans (hx1.mono HB.out.size)) | have HB:=hid hx1
  clear hx1
  refine hK.out _ _ (HB.out) (fun hHeld=>?_)
  clear hK K
  refine r1 9 (some 18) rfl (fun K hK=>?_)
  go_simp
  refine Calls.mono (aw19_q _ _ _ _) ?_
  rintro e X ⟨rfl,hx1⟩
  try have HR12:=hid (HR12.out.below hx1 hx1.size)
  try have HR17:=hid (HR17.out.below hx1 hx1.size)
  try have HR19:=hid (HR19.out.below hx1 hx1.size)
  try have HRF:=hid (HRF.out.keep (fun p hp=>hx1.cell (HSF.out _ hp)) (fun _ h=>h))
  try have HSF:=hid (fun q hq=>Nat.lt_of_lt_of_le (HSF.out q hq) hx1.size)
  try have H4:=hid (H4.out.below hx1)
  first | have HB:=hid (HB.out.trans (hx1.mono HB.out.size)) | have HB:=hid hx1
  clear hx1
  refine hK.out _ _ (HB.out) (fun hHeld=>?_)
  clear hK K
  refine r1 10 (some 19) rfl (fun K hK=>?_)
  go_simp
  first | refine alcD (fun X hX=>?_) | refine alcN (fun X hX=>?_)
  have hx1:=hX.out.1
  have hxo:=hX.out.2.1
  try have HR12:=hid (HR12.out.below hx1 hx1.size)
  try have HR17:=hid (HR17.out.below hx1 hx1.size)
  try have HR19:=hid (HR19.out.below hx1 hx1.size)
  try have HRF:=hid (HRF.out.keep (fun p hp=>hx1.cell (HSF.out _ hp)) (fun _ h=>h))
  try have HSF:=hid (fun q hq=>Nat.lt_of_lt_of_le (HSF.out q hq) hx1.size)
  try have H4:=hid (H4.out.below hx1)
  have HR19:=hid (row_objT (ts:=[rowT [xxT,xxT]]) hxo (ListR.single (E:=treeE) (treeR_mk.2 ⟨_,rfl,by simp [In64,rowT,Tree.kind],by simp [In64,rowT,Tree.cols],Nat.zero_le _,HR17.out⟩)) (by simp [maxLen]) 1 rfl)
  first | have HB:=hid (HB.out.trans (hx1.mono HB.out.size)) | have HB:=hid hx1
  clear hX hx1 hxo
  refine hK.out _ _ (HB.out) (fun hHeld=>?_)
  clear hK K
  refine r1 11 (some 20) rfl (fun K hK=>?_)
  go_simp
  refine Calls.mono (fill19_any _ _ _ _ _ HR12.out HR19.out) ?_
  rintro e X ⟨AF,cF,SF,rfl,hvf,hsf,hx1⟩
  try have H4l:=H4.out.lt
  try have HR12:=hid (HR12.out.below hx1 hx1.size)
  try have HR17:=hid (HR17.out.below hx1 hx1.size)
  try have HR19:=hid (HR19.out.below hx1 hx1.size)
  try have HRF:=hid (HRF.out.keep (fun p hp=>hx1.cell (HSF.out _ hp)) (fun _ h=>h))
  try have HSF:=hid (fun q hq=>Nat.lt_of_lt_of_le (HSF.out q hq) hx1.size)
  try have H4:=hid (H4.out.below hx1)
  have HRF:=hid hvf
  have HSF:=hid (fun q (hq:SF q)=>(hsf q hq).2)
  try have HNF:=hid (fun q (hq:SF q)=>Nat.ne_of_gt (Nat.lt_of_lt_of_le H4l (hsf q hq).1))
  first | have HB:=hid (HB.out.trans (hx1.mono HB.out.size)) | have HB:=hid hx1
  clear hvf hx1 hsf
  refine hK.out _ _ (HB.out) (fun hHeld=>?_)
  clear hK K
  refine tk 12 8 rfl ?_
  refine tk 13 21 rfl ?_
  refine tk 14 22 rfl ?_
  refine r1 16 none rfl (fun K hK=>?_)
  rw [if_pos (by rfl)]
  refine wp_store_row 31 (.tmp 4) (.tmp 21) rfl _ _ rfl rfl 31 _ H4.out (by kernel_rfl) (by simp) (by simp [Value.oneCell']) ?_
  refine put19 H4.out (fun X hX=>?_)
  have H4:=hid hX.out.2
  have HRF:=hid (hX.out.1.reads (S':=Lt X.heap.size) HRF.out (fun k hk=>⟨HSF.out k hk,HNF.out k hk⟩) (fun k hk=>Nat.lt_of_lt_of_le (HSF.out k hk) hX.out.1.size))
  have HB:=hid (HB.out.trans (hX.out.1.below HB.out.size (fun k e=>e ▸ HG4.out)))
  clear hX
  refine hK.out _ _ (HB.out) (fun hHeld=>?_)
  clear hK K
  refine tk 17 5 rfl ?_
  refine wpAnyH_done (by kernel_rfl) ?_ _
  refine NoPanic.normal ?_
  rotate_left
  all_goals
   go_wp2_with fail
   go_meet
   exact ⟨_,_,_,rfl,rfl,H4.out,HRF.out,HB.out⟩
 case rest =>
 obtain ⟨g4,AF,cF,rfl,rfl,h4,hrf,hb⟩:=hcut
 have H4:=hid h4
 have HRF:=hid hrf
 have HBV:=hid hb
 have HXV:=hid (HXV.out.below hb)
 clear h4 hrf hb
 generalize wc = V2 at *
 go_upto_region 4 with fail
 have HB:=hid (Below.drew (Below.refl V2.heap.size V2))
 refine wp_region_noPanic ?_
 refine wp_region_held_drew (S:=fun w'=>Below V2.heap.size V2 w') (by kernel_rfl) HB.out (fun hHeld=>?_)
 refine tk 0 23 rfl ?_
 refine tk 1 24 rfl ?_
 refine tk 2 25 rfl ?_
 refine tr 3 26 31 4 rfl (fun w hS=>H4.out.below hS) Try.underlying31 ?_
 refine tk 4 27 rfl ?_
 refine tr 5 28 31 2 rfl (fun w hS=>HXV.out.below hS) Try.underlying31 ?_
 refine tr 6 29 31 2 rfl (fun w hS=>HXV.out.below hS) Try.underlying31 ?_
 refine tr 7 30 31 2 rfl (fun w hS=>HXV.out.below hS) Try.underlying31 ?_
 refine r1 8 (some 31) rfl (fun K hK=>?_)
 go_simp
 first | refine alcD (fun X hX=>?_) | refine alcN (fun X hX=>?_)
 have hx1:=hX.out.1
 have hxo:=hX.out.2.1
 try have HR:=hid (HR.out.below hx1 hx1.size)
 have HRF:=hid (HRF.out.below hx1 hx1.size)
 have HR:=hid (row_objT (ts:=[xxT,xxT,xxT]) hxo (ListR.append (ListR.append (ListR.single (E:=treeE) (leaf19 X _ ⟨#[120]⟩ sz1)) (ListR.single (E:=treeE) (leaf19 X _ ⟨#[120]⟩ sz1))) (ListR.single (E:=treeE) (leaf19 X _ ⟨#[120]⟩ sz1))) (by simp [maxLen]) 3 rfl)
 first | have HB:=hid (HB.out.trans (hx1.mono HB.out.size)) | have HB:=hid hx1
 clear hX hx1 hxo
 refine hK.out _ _ (HB.out) (fun hHeld=>?_)
 clear hK K
 refine r1 9 (some 32) rfl (fun K hK=>?_)
 go_simp
 refine Calls.mono (aw19_q _ _ _ _) ?_
 rintro e X ⟨rfl,hx1⟩
 try have HR:=hid (HR.out.below hx1 hx1.size)
 have HRF:=hid (HRF.out.below hx1 hx1.size)
 first | have HB:=hid (HB.out.trans (hx1.mono HB.out.size)) | have HB:=hid hx1
 clear hx1
 refine hK.out _ _ (HB.out) (fun hHeld=>?_)
 clear hK K
 refine r1 10 (some 33) rfl (fun K hK=>?_)
 go_simp
 refine Calls.mono (equal_any (rowT [xxT,xxT,xxT]) (rowT [xxT,xxT,xxT]) _ _ _ HRF.out HR.out) ?_
 rw [show eqS (rowT [xxT,xxT,xxT]) (rowT [xxT,xxT,xxT]) = true from (eqS_iff _ _).2 rfl]
 rintro e X ⟨rfl,hx1⟩
 first | have HB:=hid (HB.out.trans (hx1.mono HB.out.size)) | have HB:=hid hx1
 clear hx1
 refine hK.out _ _ (HB.out) (fun hHeld=>?_)
 clear hK K
 refine tk 11 34 rfl ?_
 refine tk 12 0 rfl ?_
 refine wpAnyH_done (by kernel_rfl) ?_ _
 refine NoPanic.normal ?_
 go_wp2_with fail
 go_ret
 exact ⟨rfl,(HWV.out.trans (HBV.out.mono HWV.out.size)).trans (HB.out.mono (Nat.le_trans HWV.out.size HBV.out.size))⟩
end Go.Proofs.Ythpngeboknmllaa
