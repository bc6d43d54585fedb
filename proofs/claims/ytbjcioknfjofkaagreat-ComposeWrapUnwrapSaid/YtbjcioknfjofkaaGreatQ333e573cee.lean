/- Texts put together. -/
import Derived.Test.YtbjcioknfjofkaaGreatQ85a724815b
import Derived.Test.YtbjcioknfjofkaaGreatQ033cc9f7a7
import Derived.Test.YtbjcioknfjofkaaGreatQbf61badddb
set_option linter.unusedVariables false
set_option linter.unusedSimpArgs false
set_option maxRecDepth 100000
namespace Go.Proofs.YtbjcioknfjofkaaGreat
open Go.RowKit
def fr14:Tree:=.mk 5 ⟨#[]⟩ 0 [rowT [],rowT []]
def awT14:Tree:=rowT [fr14]
theorem tx14 (k:Int) (h:k = 1∨k = 5):textS k ⟨#[]⟩ = true:=by
 unfold textS
 rw [if_neg (by omega),if_neg (by omega),if_neg (by omega),if_neg (by omega),if_neg (by omega),Lib.toList_data];rfl
theorem awT14_form:formS awT14 = true:=by
 simp only [awT14,fr14,rowT,formS,formsS,tx14 1 (.inl rfl),tx14 5 (.inr rfl),List.length_cons,List.length_nil]
 decide +kernel
theorem awT14_valid:validS awT14 = true:=by
 unfold validS
 rw [awT14_form]
 decide +kernel
theorem awT14_in:posIn awT14 ([] ++ [0,1] ++ [0]) = true:=by decide +kernel
theorem awT14_ok:NodeOk awT14:=⟨by simp [awT14,rowT,Tree.kind,In64],by simp [awT14,rowT,Tree.cols,In64],Nat.zero_le _⟩
theorem awT14_erase:eraseS awT14 [0,1,0] [] true = (⟨[unwS ⟨[],0,1,fr14⟩],[0,1,0],[],[0],[]⟩,0):=by
 have hof:=of_self (q:=[] ++ [0,1]) awT14_valid awT14_in
 have he:eraseS awT14 ([] ++ [0,1] ++ [0]) [] true = eraseT awT14 ([] ++ [0,1] ++ [0]) [] true:=eraseS_not (by rw [hof]) (by rw [hof];simp)
 have hT:=er_T (q:=[] ++ [0,1]) (o:=0) awT14 true (its:=[]) awT14_valid (by decide +kernel) rfl
 show eraseS awT14 ([] ++ [0,1] ++ [0]) [] true = _
 rw [he,hT,if_neg (by simp),aro_of awT14_valid awT14_in]
 have hk:kidS (findS awT14 []).1 0 = fr14:=rfl
 simp only [hk]
 rw [if_pos (by decide +kernel)]
 have hap:=unw_apply (t:=awT14) (q:=[]) (its:=[fr14]) (a:=0) (s:=1) awT14_valid (by decide +kernel) rfl (by simp) (by decide +kernel) rfl
 exact (done_one (p:=[] ++ [0,1] ++ [0]) (mk:=[]) (pos:=[] ++ [0]) awT14_valid hap).1
theorem aw14_q (A:Option Addr) (n c:Nat) (w:World):Calls Tryz.prog 32 #[.slice A n c] w fun e w'=>e = .returned (.agg #[.int .i64 1,.string ⟨#[]⟩,.int .i64 0,.slice A n c])∧w' = w.alloc (.cells #[.int .i64 1,.string ⟨#[]⟩,.int .i64 0,.slice A n c] 24):=by
 go_enter Tryz.func32,Tryz.ntmps32
 go_wp2
 exact bodyPost_ret (v:=.agg #[.int .i64 1,.string ⟨#[]⟩,.int .i64 0,.slice A n c]) (by simp [results,Tryz.results32,go_sem]) rfl ⟨rfl,rfl⟩
theorem tree_cells14 (W:World) (S:Nat→Prop) (k c:Int) (s:ByteArray) (ts:List Tree) (v:Value) (hk:In64 k) (hc:In64 c) (hs:s.size≤maxLen) (h:SliceR treeE W S ts v):treeE.R W S (.mk k s c ts) [.int .i64 k,.string s,.int .i64 c,v] :=
 treeR_mk.2 ⟨v,rfl,hk,hc,hs,h⟩
theorem row_lit14 {α:Type} {E:Enc α} (W:World) (ts:List α) (arr:Array Value) (cs:List Value) (harr:arr = cs.toArray) (h:ListR E W (Lt W.heap.size) ts cs) (hl:ts.length≤maxLen) (n g:Nat) (hn:n = ts.length) (hg:g = W.heap.size) (e:TypeId) :
  SliceR E (W.alloc (.cells arr e)) (Lt (W.alloc (.cells arr e)).heap.size) ts (.slice (some ⟨g,0,none⟩) n n):=by
 subst harr hn hg
 have hb:Below W.heap.size W (W.alloc (.cells cs.toArray e)):=blA _ _
 refine ⟨_,_,cs,rfl,Nat.le_refl _,hl,fun _=>⟨W.heap.size,0,rfl,by unfold Lt;simp,fun j x hx=>?_⟩,h.keep (Same.of_below hb (Nat.le_refl _)) (Lt.mono hb.size)⟩
 rw [Nat.zero_add,World.cell?_alloc_new]
 simpa using hx
set_option maxHeartbeats 4000000 in
theorem awake14_any (w:World):Calls Tryz.prog 12 #[] w fun e w'=>e = .returned (.bool true)∧Below w.heap.size w w':=by
 obtain ⟨V,hV⟩:∃ V,(w.alloc (.cells #[.int .i64 1,.string ⟨#[]⟩,.int .i64 0,.slice none 0 0] 24)).alloc (.cells #[.int .i64 1,.string ⟨#[]⟩,.int .i64 0,.slice none 0 0] 24) = V:=⟨_,rfl⟩
 obtain ⟨V1,hV1⟩:∃ V1,V.alloc (.cells #[.int .i64 1,.string ⟨#[]⟩,.int .i64 0,.slice none 0 0,.int .i64 1,.string ⟨#[]⟩,.int .i64 0,.slice none 0 0] 24) = V1:=⟨_,rfl⟩
 obtain ⟨V2,hV2⟩:∃ V2,V1.alloc (.cells #[.int .i64 5,.string ⟨#[]⟩,.int .i64 0,.slice (some ⟨V.heap.size,0,none⟩) 2 2] 24) = V2:=⟨_,rfl⟩
 obtain ⟨V3,hV3⟩:∃ V3,V2.alloc (.cells #[.int .i64 1,.string ⟨#[]⟩,.int .i64 0,.slice (some ⟨V1.heap.size,0,none⟩) 1 1] 24) = V3:=⟨_,rfl⟩
 obtain ⟨V4,hV4⟩:∃ V4,V3.alloc (.cells #[.int .i64 1,.string ⟨#[]⟩,.int .i64 0,.slice (some ⟨V1.heap.size,0,none⟩) 1 1] 24) = V4:=⟨_,rfl⟩
 obtain ⟨V5,hV5⟩:∃ V5,V4.alloc (.cells #[.int .i64 0,.int .i64 1,.int .i64 0] 3) = V5:=⟨_,rfl⟩
 have b0:Below w.heap.size w V:=by rw [← hV];exact blAlloc (blA _ _) _
 have b1:Below V.heap.size V V1:=by rw [← hV1];exact blA _ _
 have b2:Below V1.heap.size V1 V2:=by rw [← hV2];exact blA _ _
 have b3:Below V2.heap.size V2 V3:=by rw [← hV3];exact blA _ _
 have b4:Below V3.heap.size V3 V4:=by rw [← hV4];exact blA _ _
 have b5:Below V4.heap.size V4 V5:=by rw [← hV5];exact blA _ _
 have hz:∀ (W:World) (S:Nat→Prop),treeE.R W S (rowT []) [.int .i64 1,.string ⟨#[]⟩,.int .i64 0,.slice none 0 0]:=fun W S=>tree_cells14 W S 1 0 ⟨#[]⟩ [] _ (by simp [In64]) (by simp [In64]) (Nat.zero_le _) (SliceR.nil_ 0 (Nat.zero_le _) none)
 have r1:SliceR treeE V1 (Lt V1.heap.size) [rowT [],rowT []] (.slice (some ⟨V.heap.size,0,none⟩) 2 2):=by
  rw [← hV1]
  exact row_lit14 V _ _ _ rfl (ListR.append (ListR.single (E:=treeE) (hz V _)) (ListR.single (E:=treeE) (hz V _))) (by simp [maxLen]) _ _ rfl rfl _
 have r2:SliceR treeE V2 (Lt V2.heap.size) [fr14] (.slice (some ⟨V1.heap.size,0,none⟩) 1 1):=by
  rw [← hV2]
  exact row_lit14 V1 _ _ _ rfl (ListR.single (E:=treeE) (tree_cells14 V1 _ 5 0 ⟨#[]⟩ _ _ (by simp [In64]) (by simp [In64]) (Nat.zero_le _) r1)) (by simp [maxLen]) _ _ rfl rfl _
 have r5:SliceR treeE V5 (Lt V5.heap.size) awT14.kids (.slice (some ⟨V1.heap.size,0,none⟩) 1 1):=((r2.below b3 b3.size).below b4 b4.size).below b5 b5.size
 have n4:HasObj V4 V3.heap.size (.cells #[.int .i64 1,.string ⟨#[]⟩,.int .i64 0,.slice (some ⟨V1.heap.size,0,none⟩) 1 1] 24):=by rw [← hV4];exact HasObj.at0 _ _
 have p5:IntsR V5 (Lt V5.heap.size) [0,1,0] (.slice (some ⟨V4.heap.size,0,none⟩) 3 3):=by rw [← hV5];exact row_lt V4 [0,1,0] 3 (by simp [In64]) (by simp [maxLen])
 have bb:Below w.heap.size w V5:=blCall (blCall (blCall (blCall (blCall b0 b1) b2) b3) b4) b5
 have CE:Hid (Calls Tryz.prog 15 #[.agg #[.int .i64 1,.string ⟨#[]⟩,.int .i64 0,.slice (some ⟨V1.heap.size,0,none⟩) 1 1],.agg #[.slice (some ⟨V4.heap.size,0,none⟩) 3 3,.slice none 0 0],.bool true] V5 (RecF V5 (⟨[unwS ⟨[],0,1,fr14⟩],[0,1,0],[],[0],[]⟩,0))):=by
  have h:=cErase_any awT14 [0,1,0] [] (some ⟨V1.heap.size,0,none⟩) (some ⟨V4.heap.size,0,none⟩) none 1 3 0 true V5 r5 awT14_ok (by decide) p5 (SliceR.nil_ 0 (Nat.zero_le _) none) (by simp) (by simp)
  rw [awT14_erase] at h
  exact h
 have BB:=hid bb
 have m0:=n4.cell 0
 have m1:=n4.cell 1
 have m2:=n4.cell 2
 have m3:=n4.cell 3
 simp only [List.getElem?_toArray,List.getElem?_cons_zero,List.getElem?_cons_succ] at m0 m1 m2 m3
 have HKD:Hid ((unwS ⟨[],0,1,fr14⟩).kind = 4):=rfl
 clear b0 b1 b2 b3 b4 b5 hz r1 r2 r5 n4 p5 bb
 go_enter Tryz.func12,Tryz.ntmps12
 go_wp2_with (first
  | (go_at_call 32;refine (aw14_q _ _ _ _).mono ?_;rintro e w9 ⟨rfl,rfl⟩)
  | fail)
 refine CE.out.mono ?_
 rintro e we ⟨Ao,co,Ap,cp,Am,cm,Aap,cap,Aam,cam,rfl,r1,_,_,r4,_,hbe⟩
 have HBE:=hid (blCall BB.out hbe)
 obtain ⟨_,_,rso,hq,_,_,hrd,hls⟩:=r1
 cases hq
 obtain ⟨g,o,Ar,An,cr,cn,e9,hg,p0,_⟩:=ops_at hrd hls (k:=0) Nat.one_pos
 subst e9
 have p1:we.cell? ⟨g,o,none⟩ = some (.int .i64 4):=p0
 have HR4:Hid (IntsR we (Lt we.heap.size) [0] (.slice Aap 1 cap)):=hid (r4.keep (fun _ _=>rfl) (fun k hk=>hk.2))
 have HP1:=hid p1
 clear hrd hls hg p0 p1 hV hV1 hV2 hV3 hV4 hV5 hbe m0 m1 m2 m3 r4 CE
 simp only [List.length_cons,List.length_nil,Nat.zero_add]
 go_upto_region 4 with fail
 generalize hX:World.alloc we _ = X
 have hbx:Below we.heap.size we X:=by rw [← hX];exact blA _ _
 have hRX:HasObj X we.heap.size (.cells #[.slice (some ⟨g,o,none⟩) 1 co,.slice Ap 3 cp,.slice Am 0 cm,.slice Aap 1 cap,.slice Aam 0 cam] 36):=by rw [← hX];exact HasObj.at0 _ _
 have p1:X.cell? ⟨g,o,none⟩ = some (.int .i64 4):=(hbx.cell (p:=⟨g,o,none⟩) (World.block_lt_of_cell? we _ HP1.out)).trans HP1.out
 have r0:=hRX.cell 0
 have r3:=hRX.cell 3
 simp only [List.getElem?_toArray,List.getElem?_cons_zero,List.getElem?_cons_succ] at r0 r3
 have HR4:=hid (HR4.out.below hbx hbx.size)
 have HBE:=hid (blCall HBE.out hbx)
 clear hX hbx hRX HP1
 go_wp2_with fail
 refine (same_q [0] [0] _ _ _ (Lt X.heap.size) _ (HR4.out.below (B':=X.heap.size) (blA X _) (Nat.le_refl _)) (ints_lit _ [0] (by simp [In64]) (S:=fun _=>True) trivial #[.int .i64 0] 1 rfl rfl (by simp [maxLen]) 3 _ rfl)).mono ?_
 rintro e w8 ⟨rfl,n8,rfl⟩
 rw [show decide (cmpS [0] [0] = 0) = true by decide]
 go_wp2_with fail
 go_ret
 exact ⟨rfl,below_draw (blAlloc HBE.out _) _⟩
end Go.Proofs.YtbjcioknfjofkaaGreat
