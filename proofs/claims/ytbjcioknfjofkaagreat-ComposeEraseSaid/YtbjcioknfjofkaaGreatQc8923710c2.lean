/- Texts put together. -/
import Derived.Test.YtbjcioknfjofkaaGreatQfe3dc0b62f
import Derived.Test.YtbjcioknfjofkaaGreatQ075cf82eb7
import Derived.Test.YtbjcioknfjofkaaGreatQ1301ed6cff
import Derived.Test.YtbjcioknfjofkaaGreatQa2a0c6c85a
set_option linter.unusedVariables false
set_option linter.unusedSimpArgs false
set_option maxRecDepth 100000
namespace Go.Proofs.YtbjcioknfjofkaaGreat
open Go.RowKit
def fr14:Tree:=.mk 5 ⟨#[]⟩ 0 [rowT [],rowT []]
def zFh:Tree:=rowT [fr14]
theorem tx14 (k:Int) (h:k = 1∨k = 5):zCh k ⟨#[]⟩ = true:=by
 unfold zCh
 rw [if_neg (by omega),if_neg (by omega),if_neg (by omega),if_neg (by omega),if_neg (by omega),Lib.toList_data];rfl
theorem zO9:zB0 zFh = true:=by
 simp only [zFh,fr14,rowT,zB0,zCr,tx14 1 (.inl rfl),tx14 5 (.inr rfl),List.length_cons,List.length_nil]
 decide +kernel
theorem zD6:zAf zFh = true:=by
 unfold zAf
 rw [zO9]
 decide +kernel
theorem zN9:zAs zFh ([] ++ [0,1] ++ [0]) = true:=by decide +kernel
theorem awT14_ok:zAu zFh:=⟨by simp [zFh,rowT,Tree.kind,In64],by simp [zFh,rowT,Tree.cols,In64],Nat.zero_le _⟩
theorem zNj:zD3 zFh [0,1,0] [] true = (⟨[unwS ⟨[],0,1,fr14⟩],[0,1,0],[],[0],[]⟩,0):=by
 have hof:=of_self (q:=[] ++ [0,1]) zD6 zN9
 have he:zD3 zFh ([] ++ [0,1] ++ [0]) [] true = zD2 zFh ([] ++ [0,1] ++ [0]) [] true:=zJs (by rw [hof]) (by rw [hof];simp)
 have hT:=er_T (q:=[] ++ [0,1]) (o:=0) zFh true (its:=[]) zD6 (by decide +kernel) rfl
 show zD3 zFh ([] ++ [0,1] ++ [0]) [] true = _
 rw [he,hT,if_neg (by simp),aro_of zD6 zN9]
 have hk:kidS (zAm zFh []).1 0 = fr14:=rfl
 simp only [hk]
 rw [if_pos (by decide +kernel)]
 have hap:=zPf (t:=zFh) (q:=[]) (its:=[fr14]) (a:=0) (s:=1) zD6 (by decide +kernel) rfl (by simp) (by decide +kernel) rfl
 exact (done_one (p:=[] ++ [0,1] ++ [0]) (mk:=[]) (pos:=[] ++ [0]) zD6 hap).1
theorem aw14_q (A:Option Addr) (n c:Nat) (w:World):Calls Tryz.prog 32 #[.slice A n c] w fun e w'=>e = .returned (.agg #[.int .i64 1,.string ⟨#[]⟩,.int .i64 0,.slice A n c])∧w' = w.alloc (.cells #[.int .i64 1,.string ⟨#[]⟩,.int .i64 0,.slice A n c] 24):=by
 go_enter Tryz.func32,Tryz.ntmps32
 go_wp2
 exact bodyPost_ret (v:=.agg #[.int .i64 1,.string ⟨#[]⟩,.int .i64 0,.slice A n c]) (by simp [results,Tryz.results32,go_sem]) rfl ⟨rfl,rfl⟩
theorem zGv (W:World) (S:Nat→Prop) (k c:Int) (s:ByteArray) (ts:List Tree) (v:Value) (hk:In64 k) (hc:In64 c) (hs:s.size≤maxLen) (h:zAa zAb W S ts v):zAb.R W S (.mk k s c ts) [.int .i64 k,.string s,.int .i64 c,v] :=
 zB1.2 ⟨v,rfl,hk,hc,hs,h⟩
theorem zK6 {α:Type} {E:Enc α} (W:World) (ts:List α) (arr:Array Value) (cs:List Value) (harr:arr = cs.toArray) (h:zAw E W (Lt W.heap.size) ts cs) (hl:ts.length≤maxLen) (n g:Nat) (hn:n = ts.length) (hg:g = W.heap.size) (e:TypeId) :
  zAa E (W.alloc (.cells arr e)) (Lt (W.alloc (.cells arr e)).heap.size) ts (.slice (some ⟨g,0,none⟩) n n):=by
 subst harr hn hg
 have hb:Below W.heap.size W (W.alloc (.cells cs.toArray e)):=blA _ _
 refine ⟨_,_,cs,rfl,Nat.le_refl _,hl,fun _=>⟨W.heap.size,0,rfl,by unfold Lt;simp,fun j x hx=>?_⟩,h.keep (Same.of_below hb (Nat.le_refl _)) (Lt.mono hb.size)⟩
 rw [Nat.zero_add,World.cell?_alloc_new]
 simpa using hx
set_option maxHeartbeats 4000000 in
theorem zIr (w:World):Calls Tryz.prog 12 #[] w fun e w'=>e = .returned (.bool true)∧Below w.heap.size w w':=by
 obtain ⟨V,hV⟩:∃ V,(w.alloc (.cells #[.int .i64 1,.string ⟨#[]⟩,.int .i64 0,.slice none 0 0] 24)).alloc (.cells #[.int .i64 1,.string ⟨#[]⟩,.int .i64 0,.slice none 0 0] 24) = V:=⟨_,rfl⟩
 obtain ⟨V1,hV1⟩:∃ V1,V.alloc (.cells #[.int .i64 1,.string ⟨#[]⟩,.int .i64 0,.slice none 0 0,.int .i64 1,.string ⟨#[]⟩,.int .i64 0,.slice none 0 0] 24) = V1:=⟨_,rfl⟩
 obtain ⟨V2,hV2⟩:∃ V2,V1.alloc (.cells #[.int .i64 5,.string ⟨#[]⟩,.int .i64 0,.slice (some ⟨V.heap.size,0,none⟩) 2 2] 24) = V2:=⟨_,rfl⟩
 obtain ⟨V3,hV3⟩:∃ V3,V2.alloc (.cells #[.int .i64 1,.string ⟨#[]⟩,.int .i64 0,.slice (some ⟨V1.heap.size,0,none⟩) 1 1] 24) = V3:=⟨_,rfl⟩
 obtain ⟨V4,hV4⟩:∃ V4,V3.alloc (.cells #[.int .i64 1,.string ⟨#[]⟩,.int .i64 0,.slice (some ⟨V1.heap.size,0,none⟩) 1 1] 24) = V4:=⟨_,rfl⟩
 obtain ⟨V5,hV5⟩:∃ V5,V4.alloc (.cells #[.int .i64 0,.int .i64 1,.int .i64 0] 3) = V5:=⟨_,rfl⟩
 have b0:Below w.heap.size w V:=by rw [← hV];exact zAp (blA _ _) _
 have b1:Below V.heap.size V V1:=by rw [← hV1];exact blA _ _
 have b2:Below V1.heap.size V1 V2:=by rw [← hV2];exact blA _ _
 have b3:Below V2.heap.size V2 V3:=by rw [← hV3];exact blA _ _
 have b4:Below V3.heap.size V3 V4:=by rw [← hV4];exact blA _ _
 have b5:Below V4.heap.size V4 V5:=by rw [← hV5];exact blA _ _
 have hz:∀ (W:World) (S:Nat→Prop),zAb.R W S (rowT []) [.int .i64 1,.string ⟨#[]⟩,.int .i64 0,.slice none 0 0]:=fun W S=>zGv W S 1 0 ⟨#[]⟩ [] _ (by simp [In64]) (by simp [In64]) (Nat.zero_le _) (zAa.nil_ 0 (Nat.zero_le _) none)
 have r1:zAa zAb V1 (Lt V1.heap.size) [rowT [],rowT []] (.slice (some ⟨V.heap.size,0,none⟩) 2 2):=by
  rw [← hV1]
  exact zK6 V _ _ _ rfl (zAw.append (zAw.single (E:=zAb) (hz V _)) (zAw.single (E:=zAb) (hz V _))) (by simp [maxLen]) _ _ rfl rfl _
 have r2:zAa zAb V2 (Lt V2.heap.size) [fr14] (.slice (some ⟨V1.heap.size,0,none⟩) 1 1):=by
  rw [← hV2]
  exact zK6 V1 _ _ _ rfl (zAw.single (E:=zAb) (zGv V1 _ 5 0 ⟨#[]⟩ _ _ (by simp [In64]) (by simp [In64]) (Nat.zero_le _) r1)) (by simp [maxLen]) _ _ rfl rfl _
 have r5:zAa zAb V5 (Lt V5.heap.size) zFh.kids (.slice (some ⟨V1.heap.size,0,none⟩) 1 1):=((r2.below b3 b3.size).below b4 b4.size).below b5 b5.size
 have n4:zAc V4 V3.heap.size (.cells #[.int .i64 1,.string ⟨#[]⟩,.int .i64 0,.slice (some ⟨V1.heap.size,0,none⟩) 1 1] 24):=by rw [← hV4];exact zAc.at0 _ _
 have p5:zAh V5 (Lt V5.heap.size) [0,1,0] (.slice (some ⟨V4.heap.size,0,none⟩) 3 3):=by rw [← hV5];exact zNu V4 [0,1,0] 3 (by simp [In64]) (by simp [maxLen])
 have bb:Below w.heap.size w V5:=zAq (zAq (zAq (zAq (zAq b0 b1) b2) b3) b4) b5
 have CE:Hid (Calls Tryz.prog 15 #[.agg #[.int .i64 1,.string ⟨#[]⟩,.int .i64 0,.slice (some ⟨V1.heap.size,0,none⟩) 1 1],.agg #[.slice (some ⟨V4.heap.size,0,none⟩) 3 3,.slice none 0 0],.bool true] V5 (RecF V5 (⟨[unwS ⟨[],0,1,fr14⟩],[0,1,0],[],[0],[]⟩,0))):=by
  have h:=zJx zFh [0,1,0] [] (some ⟨V1.heap.size,0,none⟩) (some ⟨V4.heap.size,0,none⟩) none 1 3 0 true V5 r5 awT14_ok (by decide) p5 (zAa.nil_ 0 (Nat.zero_le _) none) (by simp) (by simp)
  rw [zNj] at h
  exact h
 have BB:=hid bb
 have m0:=n4.cell 0
 have m1:=n4.cell 1
 have m2:=n4.cell 2
 have m3:=n4.cell 3
 simp only [List.getElem?_toArray,List.getElem?_cons_zero,List.getElem?_cons_succ] at m0 m1 m2 m3
 have HKD:Hid ((unwS ⟨[],0,1,fr14⟩).kind = 4):=rfl
 clear b0 b1 b2 b3 b4 b5 hz r1 r2 r5 n4 p5 bb
 go_enter Tryz.func12,Tryz.ntmps12
 go_wp2_with (first
  | (go_at_call 32;refine (aw14_q _ _ _ _).mono ?_;rintro e w9 ⟨rfl,rfl⟩)
  | fail)
 refine CE.out.mono ?_
 rintro e we ⟨Ao,co,Ap,cp,Am,cm,Aap,cap,Aam,cam,rfl,r1,_,_,r4,_,hbe⟩
 have HBE:=hid (zAq BB.out hbe)
 obtain ⟨_,_,rso,hq,_,_,hrd,hls⟩:=r1
 cases hq
 obtain ⟨g,o,Ar,An,cr,cn,e9,hg,p0,_⟩:=zLf hrd hls (k:=0) Nat.one_pos
 subst e9
 have p1:we.cell? ⟨g,o,none⟩ = some (.int .i64 4):=p0
 have HR4:Hid (zAh we (Lt we.heap.size) [0] (.slice Aap 1 cap)):=hid (r4.keep (fun _ _=>rfl) (fun k hk=>hk.2))
 have HP1:=hid p1
 clear hrd hls hg p0 p1 hV hV1 hV2 hV3 hV4 hV5 hbe m0 m1 m2 m3 r4 CE
 simp only [List.length_cons,List.length_nil,Nat.zero_add]
 go_upto_region 4 with fail
 generalize hX:World.alloc we _ = X
 have hbx:Below we.heap.size we X:=by rw [← hX];exact blA _ _
 have hRX:zAc X we.heap.size (.cells #[.slice (some ⟨g,o,none⟩) 1 co,.slice Ap 3 cp,.slice Am 0 cm,.slice Aap 1 cap,.slice Aam 0 cam] 36):=by rw [← hX];exact zAc.at0 _ _
 have p1:X.cell? ⟨g,o,none⟩ = some (.int .i64 4):=(hbx.cell (p:=⟨g,o,none⟩) (World.block_lt_of_cell? we _ HP1.out)).trans HP1.out
 have r0:=hRX.cell 0
 have r3:=hRX.cell 3
 simp only [List.getElem?_toArray,List.getElem?_cons_zero,List.getElem?_cons_succ] at r0 r3
 have HR4:=hid (HR4.out.below hbx hbx.size)
 have HBE:=hid (zAq HBE.out hbx)
 clear hX hbx hRX HP1
 go_wp2_with fail
 refine (zPl [0] [0] _ _ _ (Lt X.heap.size) _ (HR4.out.below (B':=X.heap.size) (blA X _) (Nat.le_refl _)) (zDk _ [0] (by simp [In64]) (S:=fun _=>True) trivial #[.int .i64 0] 1 rfl rfl (by simp [maxLen]) 3 _ rfl)).mono ?_
 rintro e w8 ⟨rfl,n8,rfl⟩
 rw [show decide (cmpS [0] [0] = 0) = true by decide]
 go_wp2_with fail
 go_ret
 exact ⟨rfl,zO8 (zAp HBE.out _) _⟩
theorem RecB.bl {w0:World} {r:RecD × Int} {Ao Ap Am Aq An:Option Addr} {co cp cm cq cn:Nat} {W X:World} (h0:zAa opE W (Lt W.heap.size) r.1.ops (.slice Ao r.1.ops.length co)) (h1:zAh W (Lt W.heap.size) r.1.bp (.slice Ap r.1.bp.length cp)) (h2:zAh W (Lt W.heap.size) r.1.bm (.slice Am r.1.bm.length cm)) (h3:zAh W (Lt W.heap.size) r.1.ap (.slice Aq r.1.ap.length cq)) (h4:zAh W (Lt W.heap.size) r.1.am (.slice An r.1.am.length cn)) (hb:Below W.heap.size W X) :
  zAa opE X (Lt X.heap.size) r.1.ops (.slice Ao r.1.ops.length co)∧zAh X (Lt X.heap.size) r.1.bp (.slice Ap r.1.bp.length cp)∧zAh X (Lt X.heap.size) r.1.bm (.slice Am r.1.bm.length cm)∧zAh X (Lt X.heap.size) r.1.ap (.slice Aq r.1.ap.length cq)∧zAh X (Lt X.heap.size) r.1.am (.slice An r.1.am.length cn) :=
 ⟨h0.below hb hb.size,h1.below hb hb.size,h2.below hb hb.size,h3.below hb hb.size,h4.below hb hb.size⟩
set_option maxHeartbeats 8000000 in
theorem zPa (t:Tree) (p m:List Int) (k s:Int) (items:List Tree) (x:ByteArray) (f:Bool) (A Ap Am An:Option Addr) (cap cp cm cn:Nat) (w:World) (RES:RecD × Int) (hv:zAa zAb w (Lt w.heap.size) t.kids (.slice A t.kids.length cap)) (hn:zAa zAb w (Lt w.heap.size) items (.slice An items.length cn)) (hx:x.size≤maxLen)
  (hR:zG3 t p m items x = true→∀ W,Below w.heap.size w W→Calls Tryz.prog 27 #[.agg #[.int .i64 t.kind,.string t.text,.int .i64 t.cols,.slice A t.kids.length cap],.agg #[.slice Ap p.length cp,.slice Am m.length cm],.agg #[.int .i64 k,.slice An items.length cn,.int .i64 s,.string x,.bool f]] W (RecB W RES))
  (hS:zG3 t p m items x = true→∀ W,Below w.heap.size w W→Calls Tryz.prog 57 #[.agg #[.int .i64 t.kind,.string t.text,.int .i64 t.cols,.slice A t.kids.length cap],.agg #[.slice Ap p.length cp,.slice Am m.length cm],.agg #[.int .i64 k,.slice An items.length cn,.int .i64 s,.string x,.bool f]] W (RecB W RES)) :
  Calls Tryz.prog 26 #[.agg #[.int .i64 t.kind,.string t.text,.int .i64 t.cols,.slice A t.kids.length cap],.agg #[.slice Ap p.length cp,.slice Am m.length cm],.agg #[.int .i64 k,.slice An items.length cn,.int .i64 s,.string x,.bool f]] w fun e w'=>e = .returned (.bool true)∧Below w.heap.size w w':=by
 obtain ⟨W0,hW0⟩:∃ W0,((w.alloc (.cells #[.int .i64 t.kind,.string t.text,.int .i64 t.cols,.slice A t.kids.length cap] 24)).alloc (.cells #[.slice Ap p.length cp,.slice Am m.length cm] 33)).alloc (.cells #[.int .i64 k,.slice An items.length cn,.int .i64 s,.string x,.bool f] 44) = W0:=⟨_,rfl⟩
 have hb0:Below w.heap.size w W0:=by rw [← hW0];exact zAp (zAp (blA _ _) _) _
 have ho1:zAc W0 w.heap.size (.cells #[.int .i64 t.kind,.string t.text,.int .i64 t.cols,.slice A t.kids.length cap] 24):=by rw [← hW0];exact ((zAc.at0 _ _).al _).al _
 have ho2:zAc W0 (w.heap.size + 1) (.cells #[.slice Ap p.length cp,.slice Am m.length cm] 33):=by rw [← hW0];exact (zAc.at1 _ _ _).al _
 have ho3:zAc W0 (w.heap.size + 1 + 1) (.cells #[.int .i64 k,.slice An items.length cn,.int .i64 s,.string x,.bool f] 44):=by rw [← hW0];exact zAc.at2 _ _ _ _
 have KB:Hid (∀ W,Below W0.heap.size W0 W→(W.cell? ⟨w.heap.size,0,none⟩ = some (.int .i64 t.kind)∧W.cell? ⟨w.heap.size,1,none⟩ = some (.string t.text)∧W.cell? ⟨w.heap.size,2,none⟩ = some (.int .i64 t.cols)∧W.cell? ⟨w.heap.size,3,none⟩ = some (.slice A t.kids.length cap)∧W.cell? ⟨w.heap.size + 1,0,none⟩ = some (.slice Ap p.length cp)∧W.cell? ⟨w.heap.size + 1,1,none⟩ = some (.slice Am m.length cm) ∧
   W.cell? ⟨w.heap.size + 1 + 1,0,none⟩ = some (.int .i64 k)∧W.cell? ⟨w.heap.size + 1 + 1,1,none⟩ = some (.slice An items.length cn)∧W.cell? ⟨w.heap.size + 1 + 1,2,none⟩ = some (.int .i64 s)∧W.cell? ⟨w.heap.size + 1 + 1,3,none⟩ = some (.string x)∧W.cell? ⟨w.heap.size + 1 + 1,4,none⟩ = some (.bool f))∧Below w.heap.size w W):=fun W hW=>by
  have h1:=ho1.below hW
  have h2:=ho2.below hW
  have h3:=ho3.below hW
  exact ⟨⟨h1.cell 0,h1.cell 1,h1.cell 2,h1.cell 3,h2.cell 0,h2.cell 1,h3.cell 0,h3.cell 1,h3.cell 2,h3.cell 3,h3.cell 4⟩,hb0.trans (hW.mono hb0.size)⟩
 have CF:Hid (∀ W,Below w.heap.size w W→Calls Tryz.prog 17 #[.agg #[.int .i64 t.kind,.string t.text,.int .i64 t.cols,.slice A t.kids.length cap],.agg #[.slice Ap p.length cp,.slice Am m.length cm],.agg #[.int .i64 k,.slice An items.length cn,.int .i64 s,.string x,.bool f]] W fun e w'=>e = .returned (.bool (zG3 t p m items x))∧Below W.heap.size W w'):=fun W hW=>zQj t p m k s items x f A Ap Am An cap cp cm cn W (hv.below hW hW.size) (hn.below hW hW.size) hx
 have HR:=hid hR
 have HS:=hid hS
 obtain ⟨bf,hbf⟩:∃ bf,zG3 t p m items x = bf:=⟨_,rfl⟩
 rw [hbf] at CF HR HS
 clear hv hn hx hR hS hb0 ho1 ho2 ho3 hbf
 go_enter Tryz.func26,Tryz.ntmps26
 go_wp2_with fail
 refine (zIr _).mono ?_
 rintro e w1 ⟨rfl,hb1⟩
 obtain ⟨⟨m0,m1,m2,m3,n0,n1,c0,c1,c2,c3,c4⟩,hbw⟩:=KB.out w1 hb1
 have HK:=hid hbw
 have HT:=hid hb1
 clear hb1 hbw hW0
 go_wp2_with fail
 refine (CF.out _ HK.out).mono ?_
 rintro e w2 ⟨rfl,hb2⟩
 have HT:=hid (zAq HT.out hb2)
 clear hb2 m0 m1 m2 m3 n0 n1 c0 c1 c2 c3 c4
 obtain ⟨⟨m0,m1,m2,m3,n0,n1,c0,c1,c2,c3,c4⟩,hbw⟩:=KB.out w2 HT.out
 have HK:=hid hbw
 clear hbw
 cases bf
 case false =>
  clear m0 m1 m2 m3 n0 n1 c0 c1 c2 c3 c4 HR HS
  go_wp2_with fail
  refine (zIr _).mono ?_
  rintro e w3 ⟨rfl,hb3⟩
  have HK:=hid (zAq HK.out hb3)
  clear hb3
  go_wp2_with fail
  go_ret
  exact ⟨rfl,HK.out⟩
 case true =>
  go_wp2_with fail
  refine (HR.out (by trivial) _ HK.out).mono ?_
  rintro e w3 ⟨Ao1,co1,Ap1,cp1,Am1,cm1,Aq1,cq1,An1,cn1,rfl,r0,r1,r2,r3,r4,hb3⟩
  have HT:=hid (zAq HT.out hb3)
  clear m0 m1 m2 m3 n0 n1 c0 c1 c2 c3 c4 hb3
  go_upto_region 4 with fail
  generalize hX:World.alloc w3 _ = X
  have hbx:Below w3.heap.size w3 X:=by rw [← hX];exact blA _ _
  have hs:zAc X w3.heap.size (.cells #[.slice Ao1 RES.1.ops.length co1,.slice Ap1 RES.1.bp.length cp1,.slice Am1 RES.1.bm.length cm1,.slice Aq1 RES.1.ap.length cq1,.slice An1 RES.1.am.length cn1] 36):=by rw [← hX];exact zAc.at0 _ _
  have HX1:=hid (RecB.bl (w0:=w) r0 r1 r2 r3 r4 hbx)
  have HS1:=hid hs
  have HT:=hid (zAq HT.out hbx)
  obtain ⟨⟨m0,m1,m2,m3,n0,n1,c0,c1,c2,c3,c4⟩,hbw⟩:=KB.out X HT.out
  have HK:=hid hbw
  clear hX hbx hs hbw r0 r1 r2 r3 r4
  go_wp2_with fail
  refine (HS.out (by trivial) _ HK.out).mono ?_
  rintro e w4 ⟨Ao2,co2,Ap2,cp2,Am2,cm2,Aq2,cq2,An2,cn2,rfl,q0,q1,q2,q3,q4,hb4⟩
  obtain ⟨r0,r1,r2,r3,r4⟩:=HX1.out
  have HX1:=hid (RecB.bl (w0:=w) r0 r1 r2 r3 r4 hb4)
  have HT:=hid (zAq HT.out hb4)
  have HS1:=hid (HS1.out.below hb4)
  clear m0 m1 m2 m3 n0 n1 c0 c1 c2 c3 c4 hb4 r0 r1 r2 r3 r4
  go_upto_region 5 with fail
  generalize hY:World.alloc w4 _ = Y
  have hbx:Below w4.heap.size w4 Y:=by rw [← hY];exact blA _ _
  have hs:zAc Y w4.heap.size (.cells #[.slice Ao2 RES.1.ops.length co2,.slice Ap2 RES.1.bp.length cp2,.slice Am2 RES.1.bm.length cm2,.slice Aq2 RES.1.ap.length cq2,.slice An2 RES.1.am.length cn2] 36):=by rw [← hY];exact zAc.at0 _ _
  have HX2:=hid (RecB.bl (w0:=w) q0 q1 q2 q3 q4 hbx)
  obtain ⟨r0,r1,r2,r3,r4⟩:=HX1.out
  have HX1:=hid (RecB.bl (w0:=w) r0 r1 r2 r3 r4 hbx)
  have hs1:=HS1.out.below hbx
  have HT:=hid (zAq HT.out hbx)
  have HK:=hid (KB.out Y HT.out).2
  clear hY hbx q0 q1 q2 q3 q4 r0 r1 r2 r3 r4
  have g0:=hs.cell 0
  have g1:=hs.cell 1
  have g2:=hs.cell 2
  have g3:=hs.cell 3
  have g4:=hs.cell 4
  have e0:=hs1.cell 0
  have e1:=hs1.cell 1
  have e2:=hs1.cell 2
  have e3:=hs1.cell 3
  have e4:=hs1.cell 4
  simp only [List.getElem?_toArray,List.getElem?_cons_zero,List.getElem?_cons_succ] at g0 g1 g2 g3 g4 e0 e1 e2 e3 e4
  clear hs hs1
  have hSame:Hid (Calls Tryz.prog 28 #[.agg #[.slice Ao1 RES.1.ops.length co1,.slice Ap1 RES.1.bp.length cp1,.slice Am1 RES.1.bm.length cm1,.slice Aq1 RES.1.ap.length cq1,.slice An1 RES.1.am.length cn1],.agg #[.slice Ao2 RES.1.ops.length co2,.slice Ap2 RES.1.bp.length cp2,.slice Am2 RES.1.bm.length cm2,.slice Aq2 RES.1.ap.length cq2,.slice An2 RES.1.am.length cn2]] Y fun e w'=>e = .returned (.bool true)∧Below Y.heap.size Y w'):=by
   obtain ⟨r0,r1,r2,r3,r4⟩:=HX1.out
   obtain ⟨q0,q1,q2,q3,q4⟩:=HX2.out
   exact zOk RES.1 Ao1 Ap1 Am1 Aq1 An1 co1 cp1 cm1 cq1 cn1 Ao2 Ap2 Am2 Aq2 An2 co2 cp2 cm2 cq2 cn2 Y r0 r1 r2 r3 r4 q0 q1 q2 q3 q4
  have he:(RES.2 == RES.2) = true:=by simp
  go_wp2_with fail
  refine hSame.out.mono ?_
  rintro e w5 ⟨rfl,hb5⟩
  have HK:=hid (zAq HK.out hb5)
  clear hb5
  go_wp2_with fail
  go_ret
  exact ⟨rfl,HK.out⟩
end Go.Proofs.YtbjcioknfjofkaaGreat
