/- Texts put together. -/
import Derived.Test.YtbjcioknfjofkaaGreatQf027d70dc5
import Derived.Test.YtbjcioknfjofkaaGreatQf4e4b08f38
import Derived.Laws.ResultCell
import Derived.BigRegion
set_option linter.unusedVariables false
set_option linter.unusedSimpArgs false
set_option maxRecDepth 100000
namespace Go.Proofs.YtbjcioknfjofkaaGreat
open Go.RowKit
theorem Kept.dr {N:Nat→Prop} {w W:World} (h:Kept N w W):Kept N w W.drew:=⟨h.os,h.tape,h.output,h.size,h.block⟩
def LookP (OF : (List Int × Int × Int) × Int) (w : World) (t : Tree) (A : Option Addr) (cap : Nat) (p : List Int) (Ap : Option Addr) (cp : Nat) (m : List Int) (Am : Option Addr) (cm : Nat) (e : Ending) (w' : World) : Prop :=
  (OF.2 ≠ 0 ∧ e = .returned (.tuple #[.agg #[.int .i64 0, .string ⟨#[]⟩, .int .i64 0, .slice none 0 0, .slice none 0 0, .slice none 0 0, .slice none 0 0, .int .i64 0, .int .i64 0, .slice none 0 0, .int .i64 0, .slice none 0 0, .bool false, .slice none 0 0, .int .i64 0, .int .i64 0, .int .i64 0, .string ⟨#[]⟩, .int .i64 0, .slice none 0 0], .int .i64 OF.2]) ∧ Below w.heap.size w w') ∨
  (OF.2 = 0 ∧ ∃ q o Ar cr A1 Ai ci, p = q ++ [o] ∧ zAh w' (New w w') OF.1.1 (.slice Ar OF.1.1.length cr) ∧ zAh w' (Lt w.heap.size) q (.slice A1 q.length cp) ∧ zAa zAb w' (New w w') (zAg t q).1.kids (.slice Ai (zAg t q).1.kids.length ci) ∧ Below w.heap.size w w' ∧
    ((q = [] ∧ e = .returned (.tuple #[.agg #[.int .i64 t.kind, .string t.text, .int .i64 t.cols, .slice A t.kids.length cap, .slice Ap p.length cp, .slice Am m.length cm, .slice Ar OF.1.1.length cr, .int .i64 OF.1.2.1, .int .i64 OF.1.2.2, .slice A1 q.length cp, .int .i64 o, .slice Ai (zAg t q).1.kids.length ci, .bool false, .slice none 0 0, .int .i64 0, .int .i64 0, .int .i64 0, .string ⟨#[]⟩, .int .i64 0, .slice none 0 0], .int .i64 0])) ∨
     (∃ q2 i s A2 A3 c3, q = q2 ++ [i, s] ∧ zAh w' (Lt w.heap.size) q2 (.slice A2 q2.length cp) ∧ zAa zAb w' (New w w') (zA3 t q2 i).1.kids (.slice A3 (zA3 t q2 i).1.kids.length c3) ∧ e = .returned (.tuple #[.agg #[.int .i64 t.kind, .string t.text, .int .i64 t.cols, .slice A t.kids.length cap, .slice Ap p.length cp, .slice Am m.length cm, .slice Ar OF.1.1.length cr, .int .i64 OF.1.2.1, .int .i64 OF.1.2.2, .slice A1 q.length cp, .int .i64 o, .slice Ai (zAg t q).1.kids.length ci, .bool true, .slice A2 q2.length cp, .int .i64 i, .int .i64 s, .int .i64 (zA3 t q2 i).1.kind, .string (zA3 t q2 i).1.text, .int .i64 (zA3 t q2 i).1.cols, .slice A3 (zA3 t q2 i).1.kids.length c3], .int .i64 0]))))
theorem zAj {fn:Func} {p u:Tmp} {ty:TypeId} (h:fn.results = #[.cell p ty,.tmp u]) (tmps:Array Value) (P:Program) (w:World) (g:Nat) (t:TypeId) (cs:Array Value) (fr:Nat × Nat) (d:TypeDesc)
  (hp:tmps.getD p undef = .pointer (some ⟨g,0,none⟩)) (hg:w.heap[g]? = some (.cells cs t fr)) (hd:(match d with | .struct _ | .array _ _=>true | _=>false) = true) (hu:P.underlying ty = some d) (hi:(P.info? ty).map (·.size) = some cs.size) (x:Value) (hx:tmps.getD u undef = x) :
  (results fn tmps).run P w = .ok (.tuple #[.agg cs,x]) w:=by
 rw [results_cell_tmp h,hp,hx]
 simp [asAddr,run_loadVar_row w g t ty cs fr d hg hu (by cases d <;> simp_all) hi,Result.andThen]
theorem zGp {w:World} {S:Nat→Prop} {p:List Int} {A:Option Addr} {n c:Nat} (h:zAh w S p (.slice A n c)) (h0:0 < p.length):∃ g o,A = some ⟨g,o,none⟩∧S g∧∀ k (hk:k < p.length),w.cell? ⟨g,o + k,none⟩ = some (.int .i64 p[k]):=by
 obtain ⟨_,_,rs,hq,_,_,hrd,hls⟩:=h
 cases hq
 obtain ⟨e1,_⟩:=zB3.1 hls
 subst e1
 obtain ⟨g,o,e,hg,hc⟩:=hrd (by simpa using h0)
 exact ⟨g,o,e,hg,fun k hk=>hc k _ (by simp [hk])⟩
set_option maxHeartbeats 8000000 in
theorem look_any (t:Tree) (p m:List Int) (A Ap Am:Option Addr) (cap cp cm:Nat) (w:World) (hv:zAa zAb w (Lt w.heap.size) t.kids (.slice A t.kids.length cap)) (hok:zAu t) (hct:zAe t≤900000) (hp:zAh w (Lt w.heap.size) p (.slice Ap p.length cp)) (hm:zAh w (Lt w.heap.size) m (.slice Am m.length cm)) (hpl:p.length≤100000) :
  Calls Tryz.prog 37 #[.agg #[.int .i64 t.kind,.string t.text,.int .i64 t.cols,.slice A t.kids.length cap],.agg #[.slice Ap p.length cp,.slice Am m.length cm]] w (LookP (ofS t p m) w t A cap p Ap cp m Am cm):=by
 have C1:Hid (∀ W,Below w.heap.size w W→Calls Tryz.prog 68 #[.agg #[.int .i64 t.kind,.string t.text,.int .i64 t.cols,.slice A t.kids.length cap],.agg #[.slice Ap p.length cp,.slice Am m.length cm]] W (BetV W (ofS t p m))):=fun W hW=>zPk t p m A Ap Am cap cp cm W (hv.below hW hW.size) hok.2.2 (hp.below hW hW.size) (hm.below hW hW.size)
 have C2:Hid (∀ W q A1,Below w.heap.size w W→zAh W (Lt W.heap.size) q (.slice A1 q.length cp)→Calls Tryz.prog 69 #[.agg #[.int .i64 t.kind,.string t.text,.int .i64 t.cols,.slice A t.kids.length cap],.slice A1 q.length cp] W (RowQ W (zAg t q).1 (zAg t q).2)):=fun W q A1 hW hq=>zKi t q A A1 cap cp W (hv.below hW hW.size) hok hct hq
 have C3:Hid (∀ W q A1 i,Below w.heap.size w W→zAh W (Lt W.heap.size) q (.slice A1 q.length cp)→Calls Tryz.prog 70 #[.agg #[.int .i64 t.kind,.string t.text,.int .i64 t.cols,.slice A t.kids.length cap],.slice A1 q.length cp,.int .i64 i] W (RowQ W (zA3 t q i).1 (zA3 t q i).2)):=fun W q A1 i hW hq=>zQa t q i A A1 cap cp W (hv.below hW hW.size) hok hct hq
 have HOF:Hid ((ofS t p m).2 = 0→zAs t p = true):=fun h=>(zMv h).2.1
 obtain ⟨W0,hW0⟩:∃ W0,((w.alloc (.cells #[.int .i64 t.kind,.string t.text,.int .i64 t.cols,.slice A t.kids.length cap] 24)).alloc (.cells #[.slice Ap p.length cp,.slice Am m.length cm] 33)).alloc (.cells #[.int .i64 0,.string ⟨#[]⟩,.int .i64 0,.slice none 0 0,.slice none 0 0,.slice none 0 0,.slice none 0 0,.int .i64 0,.int .i64 0,.slice none 0 0,.int .i64 0,.slice none 0 0,.bool false,.slice none 0 0,.int .i64 0,.int .i64 0,.int .i64 0,.string ⟨#[]⟩,.int .i64 0,.slice none 0 0] 73) = W0:=⟨_,rfl⟩
 have HZ0:Hid (W0.heap.size = w.heap.size + 1 + 1 + 1):=by show _ = _;rw [← hW0];simp
 have KB:Hid (∀ W,Below W0.heap.size W0 W→(W.cell? ⟨w.heap.size,0,none⟩ = some (.int .i64 t.kind)∧W.cell? ⟨w.heap.size,1,none⟩ = some (.string t.text)∧W.cell? ⟨w.heap.size,2,none⟩ = some (.int .i64 t.cols)∧W.cell? ⟨w.heap.size,3,none⟩ = some (.slice A t.kids.length cap))∧(W.cell? ⟨w.heap.size + 1,0,none⟩ = some (.slice Ap p.length cp)∧W.cell? ⟨w.heap.size + 1,1,none⟩ = some (.slice Am m.length cm))∧zAc W (w.heap.size + 1 + 1) (.cells #[.int .i64 0,.string ⟨#[]⟩,.int .i64 0,.slice none 0 0,.slice none 0 0,.slice none 0 0,.slice none 0 0,.int .i64 0,.int .i64 0,.slice none 0 0,.int .i64 0,.slice none 0 0,.bool false,.slice none 0 0,.int .i64 0,.int .i64 0,.int .i64 0,.string ⟨#[]⟩,.int .i64 0,.slice none 0 0] 73)∧Below w.heap.size w W):=fun W hW=>by
  have hz:=HZ0.out
  have ho1:zAc W w.heap.size (.cells #[.int .i64 t.kind,.string t.text,.int .i64 t.cols,.slice A t.kids.length cap] 24):=zAc.belowB (by rw [← hW0];exact ((zAc.at0 _ _).al _).al _) hW (by omega)
  have ho2:zAc W (w.heap.size + 1) (.cells #[.slice Ap p.length cp,.slice Am m.length cm] 33):=zAc.belowB (by rw [← hW0];exact (zAc.at1 _ _ _).al _) hW (by omega)
  have ho3:zAc W (w.heap.size + 1 + 1) (.cells #[.int .i64 0,.string ⟨#[]⟩,.int .i64 0,.slice none 0 0,.slice none 0 0,.slice none 0 0,.slice none 0 0,.int .i64 0,.int .i64 0,.slice none 0 0,.int .i64 0,.slice none 0 0,.bool false,.slice none 0 0,.int .i64 0,.int .i64 0,.int .i64 0,.string ⟨#[]⟩,.int .i64 0,.slice none 0 0] 73):=zAc.belowB (by rw [← hW0];exact zAc.at2 _ _ _ _) hW (by omega)
  have hb0:Below w.heap.size w W0:=by rw [← hW0];exact zAp (zAp (blA _ _) _) _
  exact ⟨⟨ho1.cell 0,ho1.cell 1,ho1.cell 2,ho1.cell 3⟩,⟨ho2.cell 0,ho2.cell 1⟩,ho3,hb0.trans (hW.mono hb0.size)⟩
 obtain ⟨⟨m0,m1,m2,m3⟩,⟨n0,n1⟩,_,hbw0⟩:=KB.out W0 (Below.refl _ _)
 have HBW0:=hid hbw0
 have HP:=hid hp
 have HPL:=hid hpl
 clear hv hok hct hp hm hbw0 hpl
 generalize ofS t p m = OF at *
 obtain ⟨⟨sr,sa,sb⟩,se⟩:=OF
 simp only at *
 go_enter Tryz.func37,Tryz.ntmps37
 go_wp2_with fail
 refine (C1.out _ HBW0.out).mono ?_
 rintro e w1 ⟨vr,rfl,hr1,hb1⟩
 simp only at hr1 ⊢
 obtain ⟨Ar,cr,rfl⟩:=hr1.form
 obtain ⟨W1,hW1⟩:∃ W1,w1.alloc (.cells #[.slice Ar sr.length cr,.int .i64 sa,.int .i64 sb] 46) = W1:=⟨_,rfl⟩
 have hb2:Below w1.heap.size w1 W1:=by rw [← hW1];exact blA _ _
 have HB1:Hid (Below W0.heap.size W0 W1):=hb1.trans (hb2.mono hb1.size)
 have ho6:zAc W1 w1.heap.size (.cells #[.slice Ar sr.length cr,.int .i64 sa,.int .i64 sb] 46):=by rw [← hW1];exact zAc.at0 _ _
 have s0:=ho6.cell 0
 have s1:=ho6.cell 1
 have s2:=ho6.cell 2
 simp only [List.getElem?_toArray,List.getElem?_cons_zero,List.getElem?_cons_succ] at s0 s1 s2
 have HSR:Hid (zAh W1 (fun k=>W0.heap.size≤k∧k < W1.heap.size) sr (.slice Ar sr.length cr)):=hr1.keep (fun q hq=>hb2.cell hq.2) (fun k hk=>⟨hk.1,Nat.lt_of_lt_of_le hk.2 hb2.size⟩)
 have HO6:=hid ho6
 clear m0 m1 m2 m3 n0 n1 hr1 hb1 hb2 ho6
 obtain ⟨⟨m0,m1,m2,m3⟩,⟨n0,n1⟩,hrs,hbw1⟩:=KB.out W1 HB1.out
 have HBW1:=hid hbw1
 have HRS:=hid hrs
 clear hrs hbw1
 go_upto_region 2 with fail
 try rw [hW1]
 clear hW1
 by_cases hse:se = 0
 rotate_left
 ·have i9:(se == 0) = false:=by simpa using hse
  have i9':(se != 0) = true:=by simpa using hse
  have HSE:=hid hse
  clear s0 s1 s2 m0 m1 m2 m3 n0 n1 hse
  go_wp2_with (first
   | fail
   | (refine wpList_store_row rfl 73 (.tmp 4) (.tmp 20) rfl (w.heap.size + 1 + 1) _ rfl rfl 73 _ HRS.out (by kernel_rfl) (by simp) (by simp [Value.oneCell']) ?_)
   | fail)
  refine bodyPost_ret (v:=.tuple #[.agg #[.int .i64 0,.string ⟨#[]⟩,.int .i64 0,.slice none 0 0,.slice none 0 0,.slice none 0 0,.slice none 0 0,.int .i64 0,.int .i64 0,.slice none 0 0,.int .i64 0,.slice none 0 0,.bool false,.slice none 0 0,.int .i64 0,.int .i64 0,.int .i64 0,.string ⟨#[]⟩,.int .i64 0,.slice none 0 0],.int .i64 se]) (zAj Tryz.results37 _ _ _ (w.heap.size + 1 + 1) 73 _ (0,0) _ rfl (HRS.out.row _) rfl Tryz.underlying73 (by kernel_rfl) _ rfl) rfl ?_
  exact Or.inl ⟨HSE.out,rfl,zAk HBW1.out (by omega) _⟩
 have hpos:=HOF.out hse
 obtain ⟨q,o,hpe⟩:∃ q o,p = q ++ [o]:=by
  rcases List.eq_nil_or_concat p with rfl | ⟨q,o,rfl⟩
  ·simp [zAs] at hpos
  ·exact ⟨q,o,by simp⟩
 have heven:=zId _ _ (zF2 (hpe ▸ hpos)).1
 subst hse
 have hlen:p.length = q.length + 1:=by rw [hpe];simp
 obtain ⟨gp,op,rfl,hgp,hcp⟩:=zGp HP.out (by omega)
 have hgp:gp < w.heap.size:=hgp
 have KP:Hid (∀ W,Below w.heap.size w W→∀ k (hk:k < p.length),W.cell? ⟨gp,op + k,none⟩ = some (.int .i64 p[k])):=fun W hW k hk=>(hW.cell (p:=⟨gp,_,none⟩) hgp).trans (hcp k hk)
 have hcc:p.length≤cp:=by obtain ⟨_,_,_,hq,h1,_⟩:=HP.out;cases hq;exact h1
 obtain ⟨A1,hs1,hc1⟩:=zL3 intE Tryz.underlying31 zCm (some ⟨gp,op,none⟩) p.length cp (q.length:Int) q.length rfl (by omega) hcc
 have HQ:Hid (∀ W,Below w.heap.size w W→zAh W (Lt w.heap.size) q (.slice A1 q.length cp)):=fun W hW=>by
  have h:=hc1 W (Lt w.heap.size) p (HP.out.keep (fun q hq=>hW.cell hq) (fun _ h=>h))
  have e:p.take q.length = q:=by rw [hpe];simp
  rw [e] at h
  exact h
 have v1:IntKind.i64.wrap ((p.length:Int) - 1) = (q.length:Int):=by rw [show (p.length:Int) - 1 = (q.length:Int) by omega];have:=HPL.out;exact IntWalk.i64_in _ (by omega)
 have i0:(0:Int)≤(q.length:Int):=by omega
 have i1:(q.length:Int) < (p.length:Int):=by omega
 have co:W1.cell? ⟨gp,op + q.length,none⟩ = some (.int .i64 o):=by
  have h:=KP.out W1 HBW1.out q.length (by omega)
  have e:p[q.length]'(by omega) = o:=by simp [hpe]
  rw [e] at h
  exact h
 have HPE:=hid hpe
 have HLEN:=hid hlen
 have HEV:=hid heven
 clear hcc hc1 hcp hpos hpe hlen heven
 go_wp2_with fail
 refine wp_region_held_drew (S:=(fun w'=>w'.cell? ⟨w.heap.size,0,none⟩ = some (.int .i64 t.kind)∧w'.cell? ⟨w.heap.size,1,none⟩ = some (.string t.text)∧w'.cell? ⟨w.heap.size,2,none⟩ = some (.int .i64 t.cols)∧w'.cell? ⟨w.heap.size,3,none⟩ = some (.slice A t.kids.length cap)∧w'.cell? ⟨w.heap.size + 1,0,none⟩ = some (.slice (some ⟨gp,op,none⟩) p.length cp)∧w'.cell? ⟨w.heap.size + 1,1,none⟩ = some (.slice Am m.length cm)∧w'.cell? ⟨w1.heap.size,0,none⟩ = some (.slice Ar sr.length cr)∧w'.cell? ⟨w1.heap.size,1,none⟩ = some (.int .i64 sa)∧w'.cell? ⟨w1.heap.size,2,none⟩ = some (.int .i64 sb)∧w'.cell? ⟨gp,op + q.length,none⟩ = some (.int .i64 o))) rfl ⟨m0,m1,m2,m3,n0,n1,s0,s1,s2,co⟩ (fun hHeld=>?_)
 refine wpAnyH_take (i:=0) (oi:=⟨some 26,_,_,_,_,_⟩) (v:=?_) rfl (by kernel_rfl) (by kernel_rfl) (by kernel_rfl) (fun _ _ _ h=>h) (Or.inl ⟨by rfl,?_⟩) hHeld ?_
 rotate_left
 ·(intro w hSw;obtain ⟨t0,t1,t2,t3,t4,t5,t6,t7,t8,t9⟩:=hSw;go_simp;try with_reducible rfl)
 try simp only [Act.put,List.setIfInBounds_toArray,List.set_cons_zero,List.set_cons_succ]
 refine wpAnyH_take (i:=1) (oi:=⟨some 27,_,_,_,_,_⟩) (v:=?_) rfl (by kernel_rfl) (by kernel_rfl) (by kernel_rfl) (fun _ _ _ h=>h) (Or.inl ⟨by rfl,?_⟩) hHeld ?_
 rotate_left
 ·(intro w hSw;obtain ⟨t0,t1,t2,t3,t4,t5,t6,t7,t8,t9⟩:=hSw;go_simp;try with_reducible rfl)
 try simp only [Act.put,List.setIfInBounds_toArray,List.set_cons_zero,List.set_cons_succ]
 refine wpAnyH_take (i:=2) (oi:=⟨some 28,_,_,_,_,_⟩) (v:=?_) rfl (by kernel_rfl) (by kernel_rfl) (by kernel_rfl) (fun _ _ _ h=>h) (Or.inl ⟨by rfl,?_⟩) hHeld ?_
 rotate_left
 ·(intro w hSw;obtain ⟨t0,t1,t2,t3,t4,t5,t6,t7,t8,t9⟩:=hSw;go_simp;try with_reducible rfl)
 try simp only [Act.put,List.setIfInBounds_toArray,List.set_cons_zero,List.set_cons_succ]
 refine wpAnyH_take (i:=3) (oi:=⟨some 29,_,_,_,_,_⟩) (v:=?_) rfl (by kernel_rfl) (by kernel_rfl) (by kernel_rfl) (fun _ _ _ h=>h) (Or.inl ⟨by rfl,?_⟩) hHeld ?_
 rotate_left
 ·(intro w hSw;obtain ⟨t0,t1,t2,t3,t4,t5,t6,t7,t8,t9⟩:=hSw;go_simp;try with_reducible rfl)
 try simp only [Act.put,List.setIfInBounds_toArray,List.set_cons_zero,List.set_cons_succ]
 refine wpAnyH_take (i:=4) (oi:=⟨some 30,_,_,_,_,_⟩) (v:=?_) rfl (by kernel_rfl) (by kernel_rfl) (by kernel_rfl) (fun _ _ _ h=>h) (Or.inl ⟨by rfl,?_⟩) hHeld ?_
 rotate_left
 ·(intro w hSw;obtain ⟨t0,t1,t2,t3,t4,t5,t6,t7,t8,t9⟩:=hSw;go_simp;try with_reducible rfl)
 try simp only [Act.put,List.setIfInBounds_toArray,List.set_cons_zero,List.set_cons_succ]
 refine wpAnyH_take (i:=5) (oi:=⟨some 31,_,_,_,_,_⟩) (v:=?_) rfl (by kernel_rfl) (by kernel_rfl) (by kernel_rfl) (fun _ _ _ h=>h) (Or.inl ⟨by rfl,?_⟩) hHeld ?_
 rotate_left
 ·(intro w hSw;obtain ⟨t0,t1,t2,t3,t4,t5,t6,t7,t8,t9⟩:=hSw;go_simp;try with_reducible rfl)
 try simp only [Act.put,List.setIfInBounds_toArray,List.set_cons_zero,List.set_cons_succ]
 refine wpAnyH_take (i:=6) (oi:=⟨some 32,_,_,_,_,_⟩) (v:=?_) rfl (by kernel_rfl) (by kernel_rfl) (by kernel_rfl) (fun _ _ _ h=>h) (Or.inl ⟨by rfl,?_⟩) hHeld ?_
 rotate_left
 ·(intro w hSw;obtain ⟨t0,t1,t2,t3,t4,t5,t6,t7,t8,t9⟩:=hSw;go_simp;try with_reducible rfl)
 try simp only [Act.put,List.setIfInBounds_toArray,List.set_cons_zero,List.set_cons_succ]
 refine wpAnyH_take (i:=7) (oi:=⟨some 33,_,_,_,_,_⟩) (v:=?_) rfl (by kernel_rfl) (by kernel_rfl) (by kernel_rfl) (fun _ _ _ h=>h) (Or.inl ⟨by rfl,?_⟩) hHeld ?_
 rotate_left
 ·(intro w hSw;obtain ⟨t0,t1,t2,t3,t4,t5,t6,t7,t8,t9⟩:=hSw;go_simp;try with_reducible rfl)
 try simp only [Act.put,List.setIfInBounds_toArray,List.set_cons_zero,List.set_cons_succ]
 refine wpAnyH_take (i:=8) (oi:=⟨some 34,_,_,_,_,_⟩) (v:=?_) rfl (by kernel_rfl) (by kernel_rfl) (by kernel_rfl) (fun _ _ _ h=>h) (Or.inl ⟨by rfl,?_⟩) hHeld ?_
 rotate_left
 ·(intro w hSw;obtain ⟨t0,t1,t2,t3,t4,t5,t6,t7,t8,t9⟩:=hSw;go_simp;try with_reducible rfl)
 try simp only [Act.put,List.setIfInBounds_toArray,List.set_cons_zero,List.set_cons_succ]
 refine wpAnyH_take (i:=9) (oi:=⟨some 35,_,_,_,_,_⟩) (v:=?_) rfl (by kernel_rfl) (by kernel_rfl) (by kernel_rfl) (fun _ _ _ h=>h) (Or.inl ⟨by rfl,?_⟩) hHeld ?_
 rotate_left
 ·(intro w hSw;obtain ⟨t0,t1,t2,t3,t4,t5,t6,t7,t8,t9⟩:=hSw;go_simp;try with_reducible rfl)
 try simp only [Act.put,List.setIfInBounds_toArray,List.set_cons_zero,List.set_cons_succ]
 refine wpAnyH_take (i:=10) (oi:=⟨some 36,_,_,_,_,_⟩) (v:=?_) rfl (by kernel_rfl) (by kernel_rfl) (by kernel_rfl) (fun _ _ _ h=>h) (Or.inl ⟨by rfl,?_⟩) hHeld ?_
 rotate_left
 ·(intro w hSw;obtain ⟨t0,t1,t2,t3,t4,t5,t6,t7,t8,t9⟩:=hSw;go_simp;try with_reducible rfl)
 try simp only [Act.put,List.setIfInBounds_toArray,List.set_cons_zero,List.set_cons_succ]
 refine wpAnyH_take (i:=11) (oi:=⟨some 37,_,_,_,_,_⟩) (v:=?_) rfl (by kernel_rfl) (by kernel_rfl) (by kernel_rfl) (fun _ _ _ h=>h) (Or.inl ⟨by rfl,?_⟩) hHeld ?_
 rotate_left
 ·(intro w hSw;obtain ⟨t0,t1,t2,t3,t4,t5,t6,t7,t8,t9⟩:=hSw;go_simp;try with_reducible rfl)
 try simp only [Act.put,List.setIfInBounds_toArray,List.set_cons_zero,List.set_cons_succ]
 refine wpAnyH_take (i:=12) (oi:=⟨some 38,_,_,_,_,_⟩) (v:=?_) rfl (by kernel_rfl) (by kernel_rfl) (by kernel_rfl) (fun _ _ _ h=>h) (Or.inl ⟨by rfl,?_⟩) hHeld ?_
 rotate_left
 ·(intro w hSw;clear hSw;go_simp;try with_reducible rfl)
 try simp only [Act.put,List.setIfInBounds_toArray,List.set_cons_zero,List.set_cons_succ]
 refine wpAnyH_ready (rs:=[13]) (by kernel_rfl) (by simp) ?_
 refine AllReadyH.cons (o:=⟨some 9,_,_,_,_,_⟩) rfl (fun K hK=>?_) AllReadyH.nil
 go_simp
 have hq:∀ a:Addr,a.block < W1.heap.size→((W1.alloc (.cells #[.int .i64 0,.string ⟨#[]⟩,.int .i64 0,.slice none 0 0,.slice none 0 0,.slice none 0 0,.slice none 0 0,.int .i64 0,.int .i64 0,.slice none 0 0,.int .i64 0,.slice none 0 0,.bool false,.slice none 0 0,.int .i64 0,.int .i64 0,.int .i64 0,.string ⟨#[]⟩,.int .i64 0,.slice none 0 0] 73)).drew).cell? a = W1.cell? a:=fun a ha=>(blA W1 _).cell ha
 refine hK.out _ _ ⟨(hq _ (zBd m0)).trans m0,(hq _ (zBd m1)).trans m1,(hq _ (zBd m2)).trans m2,(hq _ (zBd m3)).trans m3,(hq _ (zBd n0)).trans n0,(hq _ (zBd n1)).trans n1,(hq _ (zBd s0)).trans s0,(hq _ (zBd s1)).trans s1,(hq _ (zBd s2)).trans s2,(hq _ (zBd co)).trans co⟩ (fun hHeld2=>?_)
 clear hK K hHeld
 have hHeld:=hHeld2
 clear hHeld2 hq
 try simp only [Act.put,List.setIfInBounds_toArray,List.set_cons_zero,List.set_cons_succ]
 refine wpAnyH_ready (rs:=[14]) (by kernel_rfl) (by simp) ?_
 refine AllReadyH.cons (o:=⟨none,_,_,_,_,_⟩) rfl (fun K hK=>?_) AllReadyH.nil
 rw [if_pos (by rfl)]
 have hob:zAc ((W1.alloc (.cells #[.int .i64 0,.string ⟨#[]⟩,.int .i64 0,.slice none 0 0,.slice none 0 0,.slice none 0 0,.slice none 0 0,.int .i64 0,.int .i64 0,.slice none 0 0,.int .i64 0,.slice none 0 0,.bool false,.slice none 0 0,.int .i64 0,.int .i64 0,.int .i64 0,.string ⟨#[]⟩,.int .i64 0,.slice none 0 0] 73)).drew) W1.heap.size (.cells #[.int .i64 0,.string ⟨#[]⟩,.int .i64 0,.slice none 0 0,.slice none 0 0,.slice none 0 0,.slice none 0 0,.int .i64 0,.int .i64 0,.slice none 0 0,.int .i64 0,.slice none 0 0,.bool false,.slice none 0 0,.int .i64 0,.int .i64 0,.int .i64 0,.string ⟨#[]⟩,.int .i64 0,.slice none 0 0] 73):=(zAc.at0 _ _).dr
 refine wp_store_row 73 (.tmp 9) (.tmp 38) rfl W1.heap.size #[.int .i64 t.kind,.string t.text,.int .i64 t.cols,.slice A t.kids.length cap,.slice (some ⟨gp,op,none⟩) p.length cp,.slice Am m.length cm,.slice Ar sr.length cr,.int .i64 sa,.int .i64 sb,.slice A1 q.length cp,.int .i64 o,.slice none 0 0,.bool false,.slice none 0 0,.int .i64 0,.int .i64 0,.int .i64 0,.string ⟨#[]⟩,.int .i64 0,.slice none 0 0] rfl rfl 73 _ hob (by kernel_rfl) (by simp) (by simp [Value.oneCell']) ?_
 obtain ⟨X,hX⟩:∃ X,((W1.alloc (.cells #[.int .i64 0,.string ⟨#[]⟩,.int .i64 0,.slice none 0 0,.slice none 0 0,.slice none 0 0,.slice none 0 0,.int .i64 0,.int .i64 0,.slice none 0 0,.int .i64 0,.slice none 0 0,.bool false,.slice none 0 0,.int .i64 0,.int .i64 0,.int .i64 0,.string ⟨#[]⟩,.int .i64 0,.slice none 0 0] 73)).drew).setRow W1.heap.size #[.int .i64 t.kind,.string t.text,.int .i64 t.cols,.slice A t.kids.length cap,.slice (some ⟨gp,op,none⟩) p.length cp,.slice Am m.length cm,.slice Ar sr.length cr,.int .i64 sa,.int .i64 sb,.slice A1 q.length cp,.int .i64 o,.slice none 0 0,.bool false,.slice none 0 0,.int .i64 0,.int .i64 0,.int .i64 0,.string ⟨#[]⟩,.int .i64 0,.slice none 0 0] = X:=⟨_,rfl⟩
 have hbX:Below W1.heap.size W1 X:=by rw [← hX];exact zAk (zC2 (blA W1 _)) (Nat.le_refl _) _
 have ho9:zAc X W1.heap.size (.cells #[.int .i64 t.kind,.string t.text,.int .i64 t.cols,.slice A t.kids.length cap,.slice (some ⟨gp,op,none⟩) p.length cp,.slice Am m.length cm,.slice Ar sr.length cr,.int .i64 sa,.int .i64 sb,.slice A1 q.length cp,.int .i64 o,.slice none 0 0,.bool false,.slice none 0 0,.int .i64 0,.int .i64 0,.int .i64 0,.string ⟨#[]⟩,.int .i64 0,.slice none 0 0] 73):=by rw [← hX];exact hob.row _
 have hq:∀ a:Addr,a.block < W1.heap.size→X.cell? a = W1.cell? a:=fun a ha=>hbX.cell ha
 rw [hX]
 refine hK.out _ _ ⟨(hq _ (zBd m0)).trans m0,(hq _ (zBd m1)).trans m1,(hq _ (zBd m2)).trans m2,(hq _ (zBd m3)).trans m3,(hq _ (zBd n0)).trans n0,(hq _ (zBd n1)).trans n1,(hq _ (zBd s0)).trans s0,(hq _ (zBd s1)).trans s1,(hq _ (zBd s2)).trans s2,(hq _ (zBd co)).trans co⟩ (fun hHeld2=>?_)
 clear hK K hHeld hHeld2 hX hob
 try simp only [Act.put,List.setIfInBounds_toArray,List.set_cons_zero,List.set_cons_succ]
 refine wpAnyH_done (by kernel_rfl) ?_ _
 have HBX:Hid (Below W0.heap.size W0 X):=HB1.out.trans (hbX.mono HB1.out.size)
 have HKX:Hid (Kept (fun k=>k = W1.heap.size) W1 X):=Kept.of_below hbX _
 have HO9:=hid ho9
 have b9:=ho9.cell 9
 simp only [List.getElem?_toArray,List.getElem?_cons_zero,List.getElem?_cons_succ] at b9
 have HL9:=hid ho9.lt
 have H01:=hid HB1.out.size
 clear m0 m1 m2 m3 n0 n1 s0 s1 s2 co hq hbX ho9 hs1 HRS HBW1 HO6
 obtain ⟨⟨m0,m1,m2,m3⟩,⟨n0,n1⟩,_,hbw⟩:=KB.out X HBX.out
 have HWX:=hid hbw
 have HCR:=hid (C2.out X q A1 hbw ((HQ.out X hbw).keep (fun _ _=>rfl) (fun k hk=>Nat.lt_of_lt_of_le hk hbw.size)))
 clear hbw
 generalize hRR:zAg t q = RR at *
 obtain ⟨⟨rk,rt,rc,rks⟩,re⟩:=RR
 have HRRE:Hid ((zAg t q).1.kids = rks):=by show _ = _;rw [hRR];rfl
 clear hRR
 go_wp2_with fail
 refine HCR.out.mono ?_
 rintro e w5 ⟨v5,rfl,hr5,hb5⟩
 simp only [Tree.kind,Tree.text,Tree.cols,Tree.kids] at hr5 ⊢
 obtain ⟨A5,c5,rfl⟩:=hr5.form
 obtain ⟨W6,hW6⟩:∃ W6,w5.alloc (.cells #[.int .i64 rk,.string rt,.int .i64 rc,.slice A5 rks.length c5] 24) = W6:=⟨_,rfl⟩
 have hb6:Below w5.heap.size w5 W6:=by rw [← hW6];exact blA _ _
 have hb56:Below X.heap.size X W6:=hb5.trans (hb6.mono hb5.size)
 have ho10:zAc W6 w5.heap.size (.cells #[.int .i64 rk,.string rt,.int .i64 rc,.slice A5 rks.length c5] 24):=by rw [← hW6];exact zAc.at0 _ _
 have d3:=ho10.cell 3
 simp only [List.getElem?_toArray,List.getElem?_cons_zero,List.getElem?_cons_succ] at d3
 have ho9:=HO9.out.belowB hb56 HL9.out
 have b11:=ho9.cell 11
 simp only [List.getElem?_toArray,List.getElem?_cons_zero,List.getElem?_cons_succ] at b11
 have f11:=ho9.free 11
 have hs9:=ho9.set (i:=11) (.slice A5 rks.length c5)
 simp only [List.setIfInBounds_toArray,List.set_cons_zero,List.set_cons_succ] at hs9
 have HF9:=hid hs9
 have HRK:Hid (zAa zAb W6 (fun k=>X.heap.size≤k∧k < w5.heap.size) rks (.slice A5 rks.length c5)):=hr5.keep (fun q hq=>hb6.cell hq.2) (fun _ h=>h)
 have HZ7:Hid ((W6.setCell ⟨W1.heap.size,11,none⟩ (.slice A5 rks.length c5)).heap.size = W6.heap.size):=by show _ = _;simp [World.setCell]
 have HB7:Hid (Below W0.heap.size W0 (W6.setCell ⟨W1.heap.size,11,none⟩ (.slice A5 rks.length c5))):=(HBX.out.trans (hb56.mono HBX.out.size)).setCell (p:=⟨W1.heap.size,11,none⟩) H01.out _
 have HK7:Hid (Kept (fun k=>k = W1.heap.size) W1 (W6.setCell ⟨W1.heap.size,11,none⟩ (.slice A5 rks.length c5))):=((HKX.out.trans (Kept.of_below hb56 (fun _=>False))).trans (Kept.set _ _ _)).mono (fun k hk h=>by
  rcases h with (h | h) | h
  ·exact h
  ·exact h.elim
  ·exact h)
 have HR7:Hid (zAa zAb (W6.setCell ⟨W1.heap.size,11,none⟩ (.slice A5 rks.length c5)) (fun k=>X.heap.size≤k∧k < w5.heap.size) rks (.slice A5 rks.length c5)):=HRK.out.keep (fun q hq=>World.cell?_setCell_other _ _ _ _ (by intro e;have h1:=hq.1;rw [← e] at h1;exact absurd HL9.out (Nat.not_lt.2 h1))) (fun _ h=>h)
 have HX5:=hid hb5.size
 have H56:=hid hb6.size
 clear b9 m0 m1 m2 m3 n0 n1 hr5 hb5 hb6 hb56 ho10 ho9 hs9 HO9 HRK
 go_upto_region 7 with fail
 try rw [hW6]
 clear hW6
 go_upto_region 8 with fail
 clear d3 b11 f11
 generalize (W6.setCell ⟨W1.heap.size,11,none⟩ (.slice A5 rks.length c5)) = W7 at *
 obtain ⟨⟨m0,m1,m2,m3⟩,⟨n0,n1⟩,hrs,hbw⟩:=KB.out W7 HB7.out
 have HW7:=hid hbw
 have HRF:=hid hrs
 clear hbw hrs
 have hz3:=HZ0.out
 rcases Nat.eq_zero_or_pos q.length with hq0 | hq0
 ·have hqn:q = []:=List.eq_nil_of_length_eq_zero hq0
  have i8:decide ((0:Int) < (q.length:Int)) = false:=by rw [decide_eq_false_iff_not];omega
  have i8':¬ (0 < q.length):=by omega
  have HZ:=hid hz3
  have HQN:=hid hqn
  clear hq0 hz3 hqn m0 m1 m2 m3 n0 n1
  go_wp2_with (first
   | (refine wpList_load_row rfl 73 (.tmp 9) rfl W1.heap.size rfl 73 #[.int .i64 t.kind,.string t.text,.int .i64 t.cols,.slice A t.kids.length cap,.slice (some ⟨gp,op,none⟩) p.length cp,.slice Am m.length cm,.slice Ar sr.length cr,.int .i64 sa,.int .i64 sb,.slice A1 q.length cp,.int .i64 o,.slice A5 rks.length c5,.bool false,.slice none 0 0,.int .i64 0,.int .i64 0,.int .i64 0,.string ⟨#[]⟩,.int .i64 0,.slice none 0 0] (0,0) _ HF9.out Tryz.underlying73 rfl (by kernel_rfl) ?_)
   | (refine wpList_store_row rfl 73 (.tmp 4) (.tmp 82) rfl (w.heap.size + 1 + 1) #[.int .i64 t.kind,.string t.text,.int .i64 t.cols,.slice A t.kids.length cap,.slice (some ⟨gp,op,none⟩) p.length cp,.slice Am m.length cm,.slice Ar sr.length cr,.int .i64 sa,.int .i64 sb,.slice A1 q.length cp,.int .i64 o,.slice A5 rks.length c5,.bool false,.slice none 0 0,.int .i64 0,.int .i64 0,.int .i64 0,.string ⟨#[]⟩,.int .i64 0,.slice none 0 0] rfl rfl 73 _ HRF.out (by kernel_rfl) (by simp) (by simp [Value.oneCell']) ?_)
   | fail)
  refine bodyPost_ret (zAj Tryz.results37 _ _ _ (w.heap.size + 1 + 1) 73 _ (0,0) _ rfl (HRF.out.row _) rfl Tryz.underlying73 (by kernel_rfl) _ rfl) rfl ?_
  have hz3:=HZ.out
  have hfin:∀ (cs:Array Value) (a:Addr),a.block≠w.heap.size + 1 + 1→(W7.setRow (w.heap.size + 1 + 1) cs).cell? a = W7.cell? a:=fun cs a ha=>World.cell?_of_block (setRow_other _ _ _ _ ha)
  have h01:=H01.out
  have hl9:=HL9.out
  have hx5:=HX5.out
  have h56:=H56.out
  have hz7:=HZ7.out
  have hk7:=HK7.out
  have hw7:=HW7.out
  exact Or.inr ⟨rfl,q,o,Ar,cr,A1,A5,c5,HPE.out,
   HSR.out.keep (fun a ha=>(hfin _ a (by have:=ha.1;omega)).trans (hk7.cell ha.2 (Nat.ne_of_lt ha.2))) (fun k hk=>⟨by have:=hk.1;omega,by rw [size_setRow];exact Nat.lt_of_lt_of_le hk.2 hk7.size⟩),
   (HQ.out W7 hw7).keep (fun a ha=>hfin _ a (by have:a.block < w.heap.size:=ha;omega)) (fun _ h=>h),
   by rw [HRRE.out];exact HR7.out.keep (fun a ha=>hfin _ a (by have:=ha.1;omega)) (fun k hk=>⟨by have:=hk.1;omega,by rw [size_setRow,hz7];exact Nat.lt_of_lt_of_le hk.2 h56⟩),
   zAk hw7 (by omega) _,.inl ⟨HQN.out,by rw [HRRE.out];rfl⟩⟩
 ·have i8:decide ((0:Int) < (q.length:Int)) = true:=by rw [decide_eq_true_eq];omega
  obtain ⟨q2,i,s,hq2⟩:=two_last (p:=q) (by have:=HEV.out;omega)
  have hl2:q.length = q2.length + 2:=by rw [hq2];simp
  have hpl:=HLEN.out
  have hPL:=HPL.out
  have hcc:p.length≤cp:=by obtain ⟨_,_,_,hq,h1,_⟩:=HP.out;cases hq;exact h1
  obtain ⟨A2,hs2,hc2⟩:=zL3 intE Tryz.underlying31 zCm (some ⟨gp,op,none⟩) p.length cp (q2.length:Int) q2.length rfl (by omega) hcc
  have HQ2:Hid (∀ W,Below w.heap.size w W→zAh W (Lt w.heap.size) q2 (.slice A2 q2.length cp)):=fun W hW=>by
   have h:=hc2 W (Lt w.heap.size) p (HP.out.keep (fun q hq=>hW.cell hq) (fun _ h=>h))
   have e:p.take q2.length = q2:=by rw [HPE.out,hq2];simp
   rw [e] at h
   exact h
  have v2:IntKind.i64.wrap ((q.length:Int) - 2) = (q2.length:Int):=by rw [show (q.length:Int) - 2 = (q2.length:Int) by omega];exact IntWalk.i64_in _ (by omega)
  have v3:IntKind.i64.wrap ((q.length:Int) - 1) = (q2.length:Int) + 1:=by rw [show (q.length:Int) - 1 = (q2.length:Int) + 1 by omega];exact IntWalk.i64_in _ (by omega)
  have j0:(0:Int)≤(q2.length:Int):=by omega
  have j1:(q2.length:Int) < (p.length:Int):=by omega
  have j2:(0:Int)≤(q2.length:Int) + 1:=by omega
  have j3:(q2.length:Int) + 1 < (p.length:Int):=by omega
  have ci:W7.cell? ⟨gp,op + q2.length,none⟩ = some (.int .i64 i):=by
   have h:=KP.out W7 HW7.out q2.length (by omega)
   have e:p[q2.length]'(by omega) = i:=by simp [HPE.out,hq2]
   rw [e] at h
   exact h
  have cs:W7.cell? ⟨gp,op + (q2.length + 1),none⟩ = some (.int .i64 s):=by
   have h:=KP.out W7 HW7.out (q2.length + 1) (by omega)
   have e:p[q2.length + 1]'(by omega) = s:=by simp [HPE.out,hq2]
   rw [e] at h
   exact h
  have HPE2:=hid hq2
  have HCI:Hid (∀ Y,Below w.heap.size w Y→Calls Tryz.prog 70 #[.agg #[.int .i64 t.kind,.string t.text,.int .i64 t.cols,.slice A t.kids.length cap],.slice A2 q2.length cp,.int .i64 i] Y (RowQ Y (zA3 t q2 i).1 (zA3 t q2 i).2)):=fun Y hY=>C3.out Y q2 A2 i hY ((HQ2.out Y hY).keep (fun _ _=>rfl) (fun k hk=>Nat.lt_of_lt_of_le hk hY.size))
  have HIE:=hid (rfl:(zA3 t q2 i).1 = (zA3 t q2 i).1)
  generalize hII:zA3 t q2 i = II at HCI
  obtain ⟨⟨ik,ix,ic,iks⟩,ie⟩:=II
  replace HIE:Hid ((zA3 t q2 i).1 = .mk ik ix ic iks):=by show _ = _;rw [hII]
  clear hII
  have ho9:=HF9.out
  have b12:=ho9.cell 12
  have b13:=ho9.cell 13
  have b14:=ho9.cell 14
  have b15:=ho9.cell 15
  simp only [List.getElem?_toArray,List.getElem?_cons_zero,List.getElem?_cons_succ] at b12 b13 b14 b15
  have f12:=ho9.free 12
  have f13:=ho9.free 13
  have f14:=ho9.free 14
  have f15:=ho9.free 15
  have hs9:=(((ho9.set (i:=12) (.bool true)).set (i:=13) (.slice A2 q2.length cp)).set (i:=14) (.int .i64 i)).set (i:=15) (.int .i64 s)
  simp only [List.setIfInBounds_toArray,List.set_cons_zero,List.set_cons_succ] at hs9
  have HG9:=hid hs9
  have hk8:=(((HK7.out.trans (Kept.set W7 ⟨W1.heap.size,12,none⟩ (.bool true))).trans (Kept.set _ ⟨W1.heap.size,13,none⟩ (.slice A2 q2.length cp))).trans (Kept.set _ ⟨W1.heap.size,14,none⟩ (.int .i64 i))).trans (Kept.set _ ⟨W1.heap.size,15,none⟩ (.int .i64 s))
  have HK8:Hid (Kept (fun k=>k = W1.heap.size) W1 ((((W7.setCell ⟨W1.heap.size,12,none⟩ (.bool true)).setCell ⟨W1.heap.size,13,none⟩ (.slice A2 q2.length cp)).setCell ⟨W1.heap.size,14,none⟩ (.int .i64 i)).setCell ⟨W1.heap.size,15,none⟩ (.int .i64 s))):=hk8.mono (fun k hk h=>by
   rcases h with (((h | h) | h) | h) | h
   ·exact h
   ·exact h
   ·exact h
   ·exact h
   ·exact h)
  have HB8:Hid (Below W0.heap.size W0 ((((W7.setCell ⟨W1.heap.size,12,none⟩ (.bool true)).setCell ⟨W1.heap.size,13,none⟩ (.slice A2 q2.length cp)).setCell ⟨W1.heap.size,14,none⟩ (.int .i64 i)).setCell ⟨W1.heap.size,15,none⟩ (.int .i64 s))):=(((HB7.out.setCell (p:=⟨W1.heap.size,12,none⟩) H01.out _).setCell (p:=⟨W1.heap.size,13,none⟩) H01.out _).setCell (p:=⟨W1.heap.size,14,none⟩) H01.out _).setCell (p:=⟨W1.heap.size,15,none⟩) H01.out _
  have hfar8:∀ a:Addr,a.block≠W1.heap.size→((((W7.setCell ⟨W1.heap.size,12,none⟩ (.bool true)).setCell ⟨W1.heap.size,13,none⟩ (.slice A2 q2.length cp)).setCell ⟨W1.heap.size,14,none⟩ (.int .i64 i)).setCell ⟨W1.heap.size,15,none⟩ (.int .i64 s)).cell? a = W7.cell? a:=fun a ha=>by
   rw [World.cell?_setCell_other _ _ _ _ (by intro e;exact ha (by rw [← e])),World.cell?_setCell_other _ _ _ _ (by intro e;exact ha (by rw [← e])),World.cell?_setCell_other _ _ _ _ (by intro e;exact ha (by rw [← e])),World.cell?_setCell_other _ _ _ _ (by intro e;exact ha (by rw [← e]))]
  have HR8:Hid (zAa zAb ((((W7.setCell ⟨W1.heap.size,12,none⟩ (.bool true)).setCell ⟨W1.heap.size,13,none⟩ (.slice A2 q2.length cp)).setCell ⟨W1.heap.size,14,none⟩ (.int .i64 i)).setCell ⟨W1.heap.size,15,none⟩ (.int .i64 s)) (fun k=>X.heap.size≤k∧k < w5.heap.size) rks (.slice A5 rks.length c5)):=HR7.out.keep (fun a ha=>hfar8 a (by have:=ha.1;have:=HL9.out;omega)) (fun _ h=>h)
  have HZ8:Hid (((((W7.setCell ⟨W1.heap.size,12,none⟩ (.bool true)).setCell ⟨W1.heap.size,13,none⟩ (.slice A2 q2.length cp)).setCell ⟨W1.heap.size,14,none⟩ (.int .i64 i)).setCell ⟨W1.heap.size,15,none⟩ (.int .i64 s)).heap.size = W7.heap.size):=by show _ = _;simp [World.setCell]
  clear hq2 hl2 hpl hPL hcc hc2 ho9 hs9 hk8 hfar8 hz3 HF9
  have ne1:¬ W1.heap.size = w.heap.size + 1:=by have:=H01.out;have:=HZ0.out;omega
  have ne2:¬ w.heap.size + 1 = W1.heap.size:=fun e=>ne1 e.symm
  have ne3:¬ W1.heap.size = gp:=by have:=H01.out;have:=HZ0.out;omega
  have ne4:¬ gp = W1.heap.size:=fun e=>ne3 e.symm
  clear m0 m1 m2 m3 n1
  go_wp2_with fail
  clear C1 C2 C3 KP HOF HCR HK7 HKX HR7
  go_region
  obtain ⟨Y,hY⟩:∃ Y,((((W7.setCell ⟨W1.heap.size,12,none⟩ (.bool true)).setCell ⟨W1.heap.size,13,none⟩ (.slice A2 q2.length cp)).setCell ⟨W1.heap.size,14,none⟩ (.int .i64 i)).setCell ⟨W1.heap.size,15,none⟩ (.int .i64 s)).drew = Y:=⟨_,rfl⟩
  rw [hY]
  have HBY:Hid (Below W0.heap.size W0 Y):=by show Below _ _ _;rw [← hY];exact zC2 HB8.out
  have HKY:Hid (Kept (fun k=>k = W1.heap.size) W1 Y):=by show Kept _ _ _;rw [← hY];exact HK8.out.dr
  have hgY:=HG9.out.dr
  rw [hY] at hgY
  have HRY:Hid (zAa zAb Y (fun k=>X.heap.size≤k∧k < w5.heap.size) rks (.slice A5 rks.length c5)):=by show zAa _ _ _ _ _;rw [← hY];exact HR8.out.keep (fun _ _=>rfl) (fun _ h=>h)
  have HZY:Hid (Y.heap.size = W7.heap.size):=by show _ = _;rw [← hY];exact HZ8.out
  clear hY HG9 HR8 HZ8 HB8 HK8 b12 b13 b14 b15 f12 f13 f14 f15 n0 ci cs
  have b13:=hgY.cell 13
  have b14:=hgY.cell 14
  simp only [List.getElem?_toArray,List.getElem?_cons_zero,List.getElem?_cons_succ] at b13 b14
  obtain ⟨⟨m0,m1,m2,m3⟩,_,_,hbwY⟩:=KB.out Y HBY.out
  have HWY:=hid hbwY
  have HGY:=hid hgY
  clear hbwY hgY
  go_wp2_with fail
  refine (HCI.out Y HWY.out).mono ?_
  rintro e w9 ⟨v9,rfl,hr9,hb9⟩
  simp only [Tree.kind,Tree.text,Tree.cols,Tree.kids] at hr9 ⊢
  obtain ⟨A9,c9,rfl⟩:=hr9.form
  have ho9:=HGY.out.below hb9
  have b16:=ho9.cell 16
  have b17:=ho9.cell 17
  have b18:=ho9.cell 18
  have b19:=ho9.cell 19
  simp only [List.getElem?_toArray,List.getElem?_cons_zero,List.getElem?_cons_succ] at b16 b17 b18 b19
  have f16:=ho9.free 16
  have f17:=ho9.free 17
  have f18:=ho9.free 18
  have f19:=ho9.free 19
  have hs9:=(((ho9.set (i:=16) (.int .i64 ik)).set (i:=17) (.string ix)).set (i:=18) (.int .i64 ic)).set (i:=19) (.slice A9 iks.length c9)
  simp only [List.setIfInBounds_toArray,List.set_cons_zero,List.set_cons_succ] at hs9
  have hb9':=HBY.out.trans (hb9.mono HBY.out.size)
  have HB10:Hid (Below W0.heap.size W0 ((((w9.setCell ⟨W1.heap.size,16,none⟩ (.int .i64 ik)).setCell ⟨W1.heap.size,17,none⟩ (.string ix)).setCell ⟨W1.heap.size,18,none⟩ (.int .i64 ic)).setCell ⟨W1.heap.size,19,none⟩ (.slice A9 iks.length c9))):=(((hb9'.setCell (p:=⟨W1.heap.size,16,none⟩) H01.out _).setCell (p:=⟨W1.heap.size,17,none⟩) H01.out _).setCell (p:=⟨W1.heap.size,18,none⟩) H01.out _).setCell (p:=⟨W1.heap.size,19,none⟩) H01.out _
  have hk10:=((((Kept.of_below hb9 (fun k=>k = W1.heap.size)).trans (Kept.set w9 ⟨W1.heap.size,16,none⟩ (.int .i64 ik))).trans (Kept.set _ ⟨W1.heap.size,17,none⟩ (.string ix))).trans (Kept.set _ ⟨W1.heap.size,18,none⟩ (.int .i64 ic))).trans (Kept.set _ ⟨W1.heap.size,19,none⟩ (.slice A9 iks.length c9))
  have HKY10:Hid (Kept (fun k=>k = W1.heap.size) Y ((((w9.setCell ⟨W1.heap.size,16,none⟩ (.int .i64 ik)).setCell ⟨W1.heap.size,17,none⟩ (.string ix)).setCell ⟨W1.heap.size,18,none⟩ (.int .i64 ic)).setCell ⟨W1.heap.size,19,none⟩ (.slice A9 iks.length c9))):=hk10.mono (fun k hk h=>by
   rcases h with (((h | h) | h) | h) | h
   ·exact h
   ·exact h
   ·exact h
   ·exact h
   ·exact h)
  have hfar:∀ a:Addr,a.block≠W1.heap.size→((((w9.setCell ⟨W1.heap.size,16,none⟩ (.int .i64 ik)).setCell ⟨W1.heap.size,17,none⟩ (.string ix)).setCell ⟨W1.heap.size,18,none⟩ (.int .i64 ic)).setCell ⟨W1.heap.size,19,none⟩ (.slice A9 iks.length c9)).cell? a = w9.cell? a:=fun a ha=>by
   rw [World.cell?_setCell_other _ _ _ _ (by intro e;exact ha (by rw [← e])),World.cell?_setCell_other _ _ _ _ (by intro e;exact ha (by rw [← e])),World.cell?_setCell_other _ _ _ _ (by intro e;exact ha (by rw [← e])),World.cell?_setCell_other _ _ _ _ (by intro e;exact ha (by rw [← e]))]
  have hz10:((((w9.setCell ⟨W1.heap.size,16,none⟩ (.int .i64 ik)).setCell ⟨W1.heap.size,17,none⟩ (.string ix)).setCell ⟨W1.heap.size,18,none⟩ (.int .i64 ic)).setCell ⟨W1.heap.size,19,none⟩ (.slice A9 iks.length c9)).heap.size = w9.heap.size:=by simp [World.setCell]
  have HR10:Hid (zAa zAb ((((w9.setCell ⟨W1.heap.size,16,none⟩ (.int .i64 ik)).setCell ⟨W1.heap.size,17,none⟩ (.string ix)).setCell ⟨W1.heap.size,18,none⟩ (.int .i64 ic)).setCell ⟨W1.heap.size,19,none⟩ (.slice A9 iks.length c9)) (fun k=>Y.heap.size≤k∧k < ((((w9.setCell ⟨W1.heap.size,16,none⟩ (.int .i64 ik)).setCell ⟨W1.heap.size,17,none⟩ (.string ix)).setCell ⟨W1.heap.size,18,none⟩ (.int .i64 ic)).setCell ⟨W1.heap.size,19,none⟩ (.slice A9 iks.length c9)).heap.size) iks (.slice A9 iks.length c9)):=hr9.keep (fun a ha=>hfar a (by have:=ha.1;have:=HKY.out.size;have:=HL9.out;have:=HGY.out.lt;omega)) (fun k hk=>⟨hk.1,by rw [hz10];exact hk.2⟩)
  have HF9:=hid hs9
  clear hr9 hb9 ho9 hs9 hb9' hk10 hfar hz10 m0 m1 m2 m3 b13 b14
  go_upto_region 11 with fail
  clear b16 b17 b18 b19 f16 f17 f18 f19
  generalize ((((w9.setCell ⟨W1.heap.size,16,none⟩ (.int .i64 ik)).setCell ⟨W1.heap.size,17,none⟩ (.string ix)).setCell ⟨W1.heap.size,18,none⟩ (.int .i64 ic)).setCell ⟨W1.heap.size,19,none⟩ (.slice A9 iks.length c9)) = W9 at *
  obtain ⟨_,_,hrs,hbw⟩:=KB.out W9 HB10.out
  have HW9:=hid hbw
  clear HRF
  have HRF:=hid hrs
  clear hrs hbw
  go_wp2_with (first
   | (refine wpList_load_row rfl 73 (.tmp 9) rfl W1.heap.size rfl 73 _ (0,0) _ HF9.out Tryz.underlying73 rfl (by kernel_rfl) ?_)
   | (refine wpList_store_row rfl 73 (.tmp 4) (.tmp 82) rfl (w.heap.size + 1 + 1) _ rfl rfl 73 _ HRF.out (by kernel_rfl) (by simp) (by simp [Value.oneCell']) ?_)
   | fail)
  refine bodyPost_ret (zAj Tryz.results37 _ _ _ (w.heap.size + 1 + 1) 73 _ (0,0) _ rfl (HRF.out.row _) rfl Tryz.underlying73 (by kernel_rfl) _ rfl) rfl ?_
  have hz3:=HZ0.out
  have hfin:∀ (cs:Array Value) (a:Addr),a.block≠w.heap.size + 1 + 1→(W9.setRow (w.heap.size + 1 + 1) cs).cell? a = W9.cell? a:=fun cs a ha=>World.cell?_of_block (setRow_other _ _ _ _ ha)
  have h01:=H01.out
  have hl9:=HL9.out
  have hx5:=HX5.out
  have h56:=H56.out
  have hz7:=HZ7.out
  have hzy:=HZY.out
  have hk9:=HKY10.out
  have hky:=HKY.out
  have hw9:=HW9.out
  refine Or.inr ⟨rfl,q,o,Ar,cr,A1,A5,c5,HPE.out,
   HSR.out.keep (fun a ha=>(hfin _ a (by have:=ha.1;omega)).trans ((hk9.cell (Nat.lt_of_lt_of_le ha.2 hky.size) (Nat.ne_of_lt ha.2)).trans (hky.cell ha.2 (Nat.ne_of_lt ha.2)))) (fun k hk=>⟨by have:=hk.1;omega,by rw [size_setRow];exact Nat.lt_of_lt_of_le hk.2 (Nat.le_trans hky.size hk9.size)⟩),
   (HQ.out W9 hw9).keep (fun a ha=>hfin _ a (by have:a.block < w.heap.size:=ha;omega)) (fun _ h=>h),
   by rw [HRRE.out];exact HRY.out.keep (fun a ha=>(hfin _ a (by have:=ha.1;omega)).trans (hk9.cell (by have:=ha.2;omega) (by have:=ha.1;omega))) (fun k hk=>⟨by have:=hk.1;omega,by rw [size_setRow];have:=hk9.size;have:=hk.2;omega⟩),
   zAk hw9 (by omega) _,.inr ⟨q2,i,s,A2,A9,c9,HPE2.out,(HQ2.out W9 hw9).keep (fun a ha=>hfin _ a (by have:a.block < w.heap.size:=ha;omega)) (fun _ h=>h),?_,?_⟩⟩
  ·rw [HIE.out]
   exact HR10.out.keep (fun a ha=>hfin _ a (by have:=ha.1;have:=hky.size;omega)) (fun k hk=>⟨by have:=hk.1;have:=hky.size;omega,by rw [size_setRow];exact hk.2⟩)
  ·rw [HIE.out,HRRE.out]
   rfl
end Go.Proofs.YtbjcioknfjofkaaGreat
