/- Texts put together. -/
import Derived.Test.YtbjcioknfjofkaaGreatQb55496f77f
import Derived.Test.YtbjcioknfjofkaaGreatQ0a2d1212ff
import Derived.Deep.QuietTactic
import Derived.BigQuiet
set_option linter.unusedVariables false
set_option linter.unusedSimpArgs false
set_option maxRecDepth 100000
namespace Go.Proofs.YtbjcioknfjofkaaGreat
open Go.RowKit
def zAx:Tree:=.mk 0 ⟨#[]⟩ 0 []
def zAm : Tree → List Int → Tree × Bool
  | t, i :: k :: p =>
    if hi : 0 ≤ i ∧ i.toNat < t.kids.length then
      if hk : 0 ≤ k ∧ k.toNat < (t.kids[i.toNat]'hi.2).kids.length then zAm ((t.kids[i.toNat]'hi.2).kids[k.toNat]'hk.2) p else (zAx, false)
    else (zAx, false)
  | t, [] => (t, true)
  | t, [_] => (t, false)
def zOe (S:Nat→Prop) (w:World) (r:Tree × Bool) (e:Ending) (w':World):Prop :=
 ∃ v,e = .returned (.tuple #[.agg #[.int .i64 r.1.kind,.string r.1.text,.int .i64 r.1.cols,v],.bool r.2])∧zAa zAb w' S r.1.kids v∧Below w.heap.size w w'
theorem zM4 (t:Tree) (p:List Int) (h:p.length < 2):zAm t p = (t,decide (p.length = 0)):=by
 match p,h with
 | [],_=>rfl
 | [_],_=>rfl
theorem four {w:World} {b:Nat} {x0 x1 x2 x3:Value} (d0:w.cell? ⟨b,0,none⟩ = some x0) (d1:w.cell? ⟨b,1,none⟩ = some x1) (d2:w.cell? ⟨b,2,none⟩ = some x2) (d3:w.cell? ⟨b,3,none⟩ = some x3) (y0 y1 y2 y3:Value) {W:World}
  (hW:W = (((w.setCell ⟨b,0,none⟩ y0).setCell ⟨b,1,none⟩ y1).setCell ⟨b,2,none⟩ y2).setCell ⟨b,3,none⟩ y3) :
  (W.cell? ⟨b,0,none⟩ = some y0∧W.cell? ⟨b,1,none⟩ = some y1∧W.cell? ⟨b,2,none⟩ = some y2∧W.cell? ⟨b,3,none⟩ = some y3)∧W.heap.size = w.heap.size∧(∀ B a,B≤b→Below B a w→Below B a W) ∧
  (∀ p:Addr,p.block≠b→W.cell? p = w.cell? p)∧(∀ p:Addr,W.frozen? p = w.frozen? p):=by
 have o:∀ (i j:Nat),i≠j→(⟨b,i,none⟩:Addr)≠⟨b,j,none⟩:=fun i j h e=>h (by injection e)
 have f:∀ (p:Addr) (j:Nat),p.block≠b→(⟨b,j,none⟩:Addr)≠p:=fun p j h e=>h (by rw [← e])
 subst hW
 refine ⟨⟨?_,?_,?_,?_⟩,by simp [World.setCell],fun B a hB h=>(((h.setCell hB _).setCell hB _).setCell hB _).setCell hB _,fun p hp=>?_,fun p=>?_⟩
 ·rw [World.cell?_setCell_other (h:=o 3 0 (by decide)),World.cell?_setCell_other (h:=o 2 0 (by decide)),World.cell?_setCell_other (h:=o 1 0 (by decide)),World.cell?_setCell_same (h:=d0)]
 ·rw [World.cell?_setCell_other (h:=o 3 1 (by decide)),World.cell?_setCell_other (h:=o 2 1 (by decide))]
  exact World.cell?_setCell_same _ _ _ (by rw [World.cell?_setCell_other (h:=o 0 1 (by decide))];exact d1)
 ·rw [World.cell?_setCell_other (h:=o 3 2 (by decide))]
  exact World.cell?_setCell_same _ _ _ (by rw [World.cell?_setCell_other (h:=o 1 2 (by decide)),World.cell?_setCell_other (h:=o 0 2 (by decide))];exact d2)
 ·exact World.cell?_setCell_same _ _ _ (by rw [World.cell?_setCell_other (h:=o 2 3 (by decide)),World.cell?_setCell_other (h:=o 1 3 (by decide)),World.cell?_setCell_other (h:=o 0 3 (by decide))];exact d3)
 ·rw [World.cell?_setCell_other (h:=f p 3 hp),World.cell?_setCell_other (h:=f p 2 hp),World.cell?_setCell_other (h:=f p 1 hp),World.cell?_setCell_other (h:=f p 0 hp)]
 ·rw [World.frozen?_setCell,World.frozen?_setCell,World.frozen?_setCell,World.frozen?_setCell]
theorem zEs {B:Nat} {a w:World} (h:Below B a w) (n:Nat):Below B a (w.drewN n):=⟨h.os,h.tape,h.output,h.size,h.block⟩
theorem zBh {w:World} {p:Addr} {v:Value} {n:Nat} (h:w.cell? p = some v):(w.drewN n).cell? p = some v:=h
set_option maxHeartbeats 1000000 in
theorem find_any (t:Tree) (p:List Int) (w:World) (a b:Value) (S:Nat→Prop) (hS:∀ k,S k→k < w.heap.size) (ha:zAa zAb w S t.kids a) (hb:zAh w (Lt w.heap.size) p b) :
  Calls Tryz.prog 83 #[.agg #[.int .i64 t.kind,.string t.text,.int .i64 t.cols,a],b] w (zOe S w (zAm t p)):=by
 have HA:=hid ha
 have HSS:=hid hS
 clear hS
 have HB:=hid hb
 obtain ⟨A,cap,_,rfl,_,_,_,_⟩:=ha
 obtain ⟨A',cap',_,rfl,_,_,_,_⟩:=hb
 rename_i h1 h2 h3 h4 h5 h6 h7 h8
 clear h1 h2 h3 h4 h5 h6 h7 h8
 go_enter Tryz.func83,Tryz.ntmps83
 go_wp2_with fail
 go_loopw [1] (fun c wr=>Below w.heap.size w wr∧w.heap.size + 1 < wr.heap.size∧∃ (t':Tree) (p':List Int) (v':Value),zAh w (Lt w.heap.size) p' c∧zAa zAb w S t'.kids v'∧zAm t' p' = zAm t p∧p'.length≤p.length ∧
  (wr.cell? ⟨w.heap.size,0,none⟩ = some (.int .i64 t'.kind)∧wr.cell? ⟨w.heap.size,1,none⟩ = some (.string t'.text)∧wr.cell? ⟨w.heap.size,2,none⟩ = some (.int .i64 t'.cols)∧wr.cell? ⟨w.heap.size,3,none⟩ = some v') ∧
  (wr.frozen? ⟨w.heap.size,0,none⟩ = false∧wr.frozen? ⟨w.heap.size,1,none⟩ = false∧wr.frozen? ⟨w.heap.size,2,none⟩ = false∧wr.frozen? ⟨w.heap.size,3,none⟩ = false) ∧
  (wr.frozen? ⟨w.heap.size + 1,0,none⟩ = false∧wr.frozen? ⟨w.heap.size + 1,1,none⟩ = false∧wr.frozen? ⟨w.heap.size + 1,2,none⟩ = false∧wr.frozen? ⟨w.heap.size + 1,3,none⟩ = false) ∧
  (wr.cell? ⟨w.heap.size + 1,0,none⟩ = some (.int .i64 0)∧wr.cell? ⟨w.heap.size + 1,1,none⟩ = some (.string ⟨#[]⟩)∧wr.cell? ⟨w.heap.size + 1,2,none⟩ = some (.int .i64 0)∧wr.cell? ⟨w.heap.size + 1,3,none⟩ = some (.slice none 0 0)))
  (fun c _=>match c with | .slice _ n _=>n | _=>0)
 case atStart =>
  refine ⟨?_,?_,t,p,_,HB.out,HA.out,rfl,Nat.le_refl _,⟨?_,?_,?_,?_⟩,⟨?_,?_,?_,?_⟩,⟨?_,?_,?_,?_⟩,?_,?_,?_,?_⟩
  ·exact ((Below.refl _ _).alloc (Nat.le_refl _) _).alloc (by simp) _
  ·simp
  all_goals first | (simp [go_sem];done) | skip
 case round =>
  obtain ⟨hb,hz,t',p',v',hp,hv,hf,hlp,⟨c0,c1,c2,c3⟩,⟨e0,e1,e2,e3⟩,⟨f0,f1,f2,f3⟩,d0,d1,d2,d3⟩:=hrel
  have HP:=hid hp
  have HV:=hid hv
  have HF:=hid hf
  have HBR:=hid hb
  clear hf hb
  obtain ⟨A1,n1,_,rfl,_,_,_,_⟩:=hp
  obtain ⟨A2,n2,_,rfl,_,_,_,_⟩:=hv
  rename_i h1 h2 h3 h4 h5 h6 h7 h8
  by_cases hs:p'.length < 2
  ·have HS:=hid (zM4 t' p' hs)
   have i1:¬ (2:Int)≤(p'.length:Int):=by omega
   have hzz:w.heap.size < wr.heap.size:=by omega
   clear h1 h2 h3 h4 h5 h6 h7 h8 hz
   by_cases hz0:p'.length = 0
   ·have i2:((p'.length:Int) == 0) = true:=by simp [hz0]
    have i3:decide ((p'.length:Int) = 0) = true:=by simp [hz0]
    have HS2:Hid (zAm t p = (t',true)):=by show _ = _;rw [← HF.out,HS.out];simp [hz0]
    clear hz0
    go_wp2_with fail
    generalize hW:(((wr.setCell _ (.int .i64 t'.kind)).setCell _ (.string t'.text)).setCell _ (.int .i64 t'.cols)).setCell _ (.slice A2 t'.kids.length n2) = W
    obtain ⟨⟨q0,q1,q2,q3⟩,qz,qb,_,_⟩:=four d0 d1 d2 d3 _ _ _ _ hW.symm
    have HB':=qb _ _ (by simp) HBR.out
    clear hW d0 d1 d2 d3
    refine bodyPost_ret (v:=.tuple #[.agg #[.int .i64 t'.kind,.string t'.text,.int .i64 t'.cols,.slice A2 t'.kids.length n2],.bool true]) (by simp [results,Tryz.results83,go_sem,q0,q1,q2,q3]) rfl ?_
    exact ⟨.slice A2 t'.kids.length n2,by rw [HS2.out],by rw [HS2.out];exact HV.out.keep (fun p hp=>HB'.cell (HSS.out _ hp)) (fun _ h=>h),HB'⟩
   ·have i2:((p'.length:Int) == 0) = false:=by simp;intro h;simp [h] at hz0
    have i3:decide ((p'.length:Int) = 0) = false:=by simp;intro h;simp [h] at hz0
    have HS2:Hid (zAm t p = (t',false)):=by show _ = _;rw [← HF.out,HS.out,decide_eq_false hz0]
    clear hz0
    go_wp2_with fail
    generalize hW:(((wr.setCell _ (.int .i64 t'.kind)).setCell _ (.string t'.text)).setCell _ (.int .i64 t'.cols)).setCell _ (.slice A2 t'.kids.length n2) = W
    obtain ⟨⟨q0,q1,q2,q3⟩,qz,qb,_,_⟩:=four d0 d1 d2 d3 _ _ _ _ hW.symm
    have HB':=qb _ _ (by simp) HBR.out
    clear hW d0 d1 d2 d3
    refine bodyPost_ret (v:=.tuple #[.agg #[.int .i64 t'.kind,.string t'.text,.int .i64 t'.cols,.slice A2 t'.kids.length n2],.bool false]) (by simp [results,Tryz.results83,go_sem,q0,q1,q2,q3]) rfl ?_
    exact ⟨.slice A2 t'.kids.length n2,by rw [HS2.out],by rw [HS2.out];exact HV.out.keep (fun p hp=>HB'.cell (HSS.out _ hp)) (fun _ h=>h),HB'⟩
  ·obtain ⟨i,k,q,rfl⟩:∃ i k q,p' = i :: k :: q:=by
    match p',hs with
    | i :: k :: q,_=>exact ⟨i,k,q,rfl⟩
    | [_],hs=>simp at hs
    | [],hs=>simp at hs
   have i1:(2:Int)≤((i :: k :: q).length:Int):=by simp;omega
   have hzz:w.heap.size < wr.heap.size:=by omega
   obtain ⟨g,o,rfl,hg,hi,a0⟩:=zB2 h2 h3 (k:=0) (by simp)
   obtain ⟨g',o',hgo,hg',hk,a1⟩:=zB2 h2 h3 (k:=1) (by simp)
   cases hgo
   simp only [List.getElem_cons_zero,List.getElem_cons_succ,Nat.add_zero] at a0 a1 hi hk
   replace a0:=((bcell HBR.out).1 _ _ hg).trans a0
   replace a1:=((bcell HBR.out).1 _ _ hg).trans a1
   have hgl:g < w.heap.size:=hg
   by_cases hx:0≤i∧i.toNat < t'.kids.length
   ·obtain ⟨hx1,hx2⟩:=hx
    obtain ⟨ig,io,B1,b1,bs1,hb1,hg1,t0,t1,t2,t3,_,_,_,hc5,hc6,hrd,hls⟩:=zAy h7 h8 hx2
    cases hb1
    obtain ⟨i',rfl⟩:∃ i':Nat,i = i':=⟨i.toNat,by omega⟩
    simp only [Int.toNat_natCast] at *
    have j0:decide ((i':Int) < 0) = false:=by simp
    have j1:¬ (i':Int) < 0:=by omega
    have j2:decide ((t'.kids.length:Int)≤i') = false:=by simp;omega
    have j3:(i':Int) < (t'.kids.length:Int):=by omega
    have hbc:=(bcell HBR.out).1
    replace t0:=(hbc _ _ (HSS.out _ hg1)).trans t0
    replace t1:=(hbc _ _ (HSS.out _ hg1)).trans t1
    replace t2:=(hbc _ _ (HSS.out _ hg1)).trans t2
    replace t3:=(hbc _ _ (HSS.out _ hg1)).trans t3
    clear h1 h2 h3 h5 h6 h7 h8 hbc
    obtain ⟨A3,hsl,hcut⟩:=zNc intE Tryz.underlying31 zCm (some ⟨g,o,none⟩) (((i':Nat):Int) :: k :: q).length n1 2 2 rfl (by simp)
    have HCU:=hid (hcut _ _ _ HP.out)
    clear hcut
    have hql:(((i':Nat):Int) :: k :: q).length - 2 = q.length:=by simp
    rw [hql] at hsl HCU
    simp only [List.drop_succ_cons,List.drop_zero] at HCU
    have hql2:q.length + 2≤p.length:=hlp
    clear hlp hql HP
    generalize hm:(((i':Nat):Int) :: k :: q).length = m at *
    have m0:(0:Int) < (m:Int):=by rw [← hm];simp;omega
    have m2:0 < m:=by omega
    have m1:1 < m:=by omega
    have m3:(1:Int) < (m:Int):=by omega
    have HQM:Hid (q.length < m):=by show _ < _;rw [← hm];simp;omega
    clear hm
    go_wp2_with fail
    go_quiet (fail)
    go_wp2_with fail
    go_region
    generalize hW:((((World.drewN wr _).setCell _ (.int .i64 t'.kids[i'].kind)).setCell _ (.string t'.kids[i'].text)).setCell _ (.int .i64 t'.kids[i'].cols)).setCell _ (.slice B1 t'.kids[i'].kids.length b1) = W1
    obtain ⟨⟨q0,q1,q2,q3⟩,qz,qb,qf,qr⟩:=four (zBh c0) (zBh c1) (zBh c2) (zBh c3) _ _ _ _ hW.symm
    have HB1:=hid (qb _ _ (Nat.le_refl _) (zEs HBR.out _))
    have qa:W1.cell? ⟨g,o + 1,none⟩ = some (.int .i64 k):=(qf _ (Nat.ne_of_lt hgl)).trans a1
    have r0:=(qf ⟨w.heap.size + 1,0,none⟩ (Nat.succ_ne_self _)).trans (zBh d0)
    have r1:=(qf ⟨w.heap.size + 1,1,none⟩ (Nat.succ_ne_self _)).trans (zBh d1)
    have r2:=(qf ⟨w.heap.size + 1,2,none⟩ (Nat.succ_ne_self _)).trans (zBh d2)
    have r3:=(qf ⟨w.heap.size + 1,3,none⟩ (Nat.succ_ne_self _)).trans (zBh d3)
    replace e0:=(qr ⟨w.heap.size,0,none⟩).trans e0
    replace e1:=(qr ⟨w.heap.size,1,none⟩).trans e1
    replace e2:=(qr ⟨w.heap.size,2,none⟩).trans e2
    replace e3:=(qr ⟨w.heap.size,3,none⟩).trans e3
    replace f0:=(qr ⟨w.heap.size + 1,0,none⟩).trans f0
    replace f1:=(qr ⟨w.heap.size + 1,1,none⟩).trans f1
    replace f2:=(qr ⟨w.heap.size + 1,2,none⟩).trans f2
    replace f3:=(qr ⟨w.heap.size + 1,3,none⟩).trans f3
    have z1:w.heap.size + 1 < W1.heap.size:=by rw [qz];exact hz
    clear hW qf qr qb c0 c1 c2 c3 d0 d1 d2 d3 a0 a1
    clear j0 j1 j2
    by_cases hy:0≤k∧k.toNat < t'.kids[i'].kids.length
    ·obtain ⟨hy1,hy2⟩:=hy
     obtain ⟨jg,jo,B2,b2,bs2,hb2,hg2,t4,t5,t6,t7,_,_,_,hd5,hd6,hrd2,hls2⟩:=zAy hrd hls hy2
     cases hb2
     obtain ⟨k',rfl⟩:∃ k':Nat,k = k':=⟨k.toNat,by omega⟩
     simp only [Int.toNat_natCast] at *
     have j0:decide ((k':Int) < 0) = false:=by simp
     have j1:¬ (k':Int) < 0:=by omega
     have j3:(k':Int) < (t'.kids[i'].kids.length:Int):=by omega
     have j2:decide ((t'.kids[i'].kids.length:Int)≤k') = false:=by simp;omega
     have HS2:Hid (zAm t'.kids[i'].kids[k'] q = zAm t p):=by show _ = _;rw [← HF.out,zAm,dif_pos ⟨by omega,by simpa using hx2⟩,dif_pos ⟨by omega,by simpa using hy2⟩];rfl
     have HV2:Hid (zAa zAb w S t'.kids[i'].kids[k'].kids (.slice B2 t'.kids[i'].kids[k'].kids.length b2)):=⟨B2,b2,bs2,rfl,hd5,hd6,hrd2,hls2⟩
     have hbc:=(bcell HB1.out).1
     replace t4:=(hbc _ _ (HSS.out _ hg2)).trans t4
     replace t5:=(hbc _ _ (HSS.out _ hg2)).trans t5
     replace t6:=(hbc _ _ (HSS.out _ hg2)).trans t6
     replace t7:=(hbc _ _ (HSS.out _ hg2)).trans t7
     clear hbc hd5 hd6 hrd2 hls2 hrd hls hc5 hc6 t0 t1 t2 t3 HF HV
     go_wp2_with fail
     go_quiet (fail)
     go_wp2_with fail
     go_region
     go_wp2_with fail
     generalize hW2:((((World.drewN W1 _).setCell _ (.int .i64 t'.kids[i'].kids[k'].kind)).setCell _ (.string t'.kids[i'].kids[k'].text)).setCell _ (.int .i64 t'.kids[i'].kids[k'].cols)).setCell _ (.slice B2 t'.kids[i'].kids[k'].kids.length b2) = W2
     obtain ⟨⟨s0,s1,s2,s3⟩,sz,sb,sf,sr⟩:=four (zBh q0) (zBh q1) (zBh q2) (zBh q3) _ _ _ _ hW2.symm
     have HB2:=hid (sb _ _ (Nat.le_refl _) (zEs HB1.out _))
     have sne:∀ j,(⟨w.heap.size + 1,j,none⟩:Addr).block≠w.heap.size:=fun j=>Nat.succ_ne_self _
     exact ⟨⟨HB2.out,by rw [sz];exact z1,_,q,_,HCU.out,HV2.out,HS2.out,by omega,⟨s0,s1,s2,s3⟩,⟨(sr _).trans e0,(sr _).trans e1,(sr _).trans e2,(sr _).trans e3⟩,⟨(sr _).trans f0,(sr _).trans f1,(sr _).trans f2,(sr _).trans f3⟩,(sf _ (sne 0)).trans (zBh r0),(sf _ (sne 1)).trans (zBh r1),(sf _ (sne 2)).trans (zBh r2),(sf _ (sne 3)).trans (zBh r3)⟩,HQM.out⟩
    ·have HS2:Hid (zAm t p = (zAx,false)):=by show _ = _;rw [← HF.out,zAm,dif_pos ⟨by omega,by simpa using hx2⟩,dif_neg (by simpa using hy)]
     have i2:¬ (0≤k)∨(0≤k∧(t'.kids[i'].kids.length:Int)≤k):=by omega
     clear hy hrd hls hc5 hc6
     rcases i2 with i2 | ⟨i2,i3⟩
     ·have j0:decide (k < 0) = true:=by simp;omega
      have j1:k < 0:=by omega
      go_wp2_with fail
      go_quiet (fail)
      go_wp2_with fail
      generalize hW:((((World.drewN W1 _).setCell _ (.int .i64 0)).setCell _ (.string ⟨#[]⟩)).setCell _ (.int .i64 0)).setCell _ (.slice none 0 0) = W
      obtain ⟨⟨s0,s1,s2,s3⟩,qz2,qb,_,_⟩:=four (zBh r0) (zBh r1) (zBh r2) (zBh r3) _ _ _ _ hW.symm
      have HB':=qb _ _ (by simp) (zEs HB1.out _)
      clear hW
      refine bodyPost_ret (v:=.tuple #[.agg #[.int .i64 0,.string ⟨#[]⟩,.int .i64 0,.slice none 0 0],.bool false]) (by simp [results,Tryz.results83,go_sem,s0,s1,s2,s3]) rfl ?_
      exact ⟨.slice none 0 0,by rw [HS2.out];rfl,by rw [HS2.out];exact zAa.nil_ 0 (Nat.zero_le _) none,HB'⟩
     ·have j0:decide (k < 0) = false:=by simp;omega
      have j1:¬ k < 0:=by omega
      have j2:decide ((t'.kids[i'].kids.length:Int)≤k) = true:=by simp;omega
      go_wp2_with fail
      go_quiet (fail)
      go_wp2_with fail
      generalize hW:((((World.drewN W1 _).setCell _ (.int .i64 0)).setCell _ (.string ⟨#[]⟩)).setCell _ (.int .i64 0)).setCell _ (.slice none 0 0) = W
      obtain ⟨⟨s0,s1,s2,s3⟩,qz2,qb,_,_⟩:=four (zBh r0) (zBh r1) (zBh r2) (zBh r3) _ _ _ _ hW.symm
      have HB':=qb _ _ (by simp) (zEs HB1.out _)
      clear hW
      refine bodyPost_ret (v:=.tuple #[.agg #[.int .i64 0,.string ⟨#[]⟩,.int .i64 0,.slice none 0 0],.bool false]) (by simp [results,Tryz.results83,go_sem,s0,s1,s2,s3]) rfl ?_
      exact ⟨.slice none 0 0,by rw [HS2.out];rfl,by rw [HS2.out];exact zAa.nil_ 0 (Nat.zero_le _) none,HB'⟩
   ·have HS2:Hid (zAm t p = (zAx,false)):=by show _ = _;rw [← HF.out,zAm,dif_neg hx]
    have i2:¬ (0≤i)∨(0≤i∧(t'.kids.length:Int)≤i):=by omega
    clear h1 h2 h3 h4 h5 h6 h7 h8 hx HP HF hlp
    generalize hm:(i :: k :: q).length = m at *
    have m0:(0:Int) < (m:Int):=by rw [← hm];simp;omega
    have m2:0 < m:=by omega
    clear hm
    rcases i2 with i2 | ⟨i2,i3⟩
    ·have j0:decide (i < 0) = true:=by simp;omega
     have j1:i < 0:=by omega
     go_wp2_with fail
     go_quiet (fail)
     go_wp2_with fail
     generalize hW:((((World.drewN wr _).setCell _ (.int .i64 0)).setCell _ (.string ⟨#[]⟩)).setCell _ (.int .i64 0)).setCell _ (.slice none 0 0) = W
     obtain ⟨⟨q0,q1,q2,q3⟩,qz,qb,_,_⟩:=four (zBh d0) (zBh d1) (zBh d2) (zBh d3) _ _ _ _ hW.symm
     have HB':=qb _ _ (by simp) (zEs HBR.out _)
     clear hW d0 d1 d2 d3
     refine bodyPost_ret (v:=.tuple #[.agg #[.int .i64 0,.string ⟨#[]⟩,.int .i64 0,.slice none 0 0],.bool false]) (by simp [results,Tryz.results83,go_sem,q0,q1,q2,q3]) rfl ?_
     exact ⟨.slice none 0 0,by rw [HS2.out];rfl,by rw [HS2.out];exact zAa.nil_ 0 (Nat.zero_le _) none,HB'⟩
    ·have j0:decide (i < 0) = false:=by simp;omega
     have j1:¬ i < 0:=by omega
     have j2:decide ((t'.kids.length:Int)≤i) = true:=by simp;omega
     go_wp2_with fail
     go_quiet (fail)
     go_wp2_with fail
     generalize hW:((((World.drewN wr _).setCell _ (.int .i64 0)).setCell _ (.string ⟨#[]⟩)).setCell _ (.int .i64 0)).setCell _ (.slice none 0 0) = W
     obtain ⟨⟨q0,q1,q2,q3⟩,qz,qb,_,_⟩:=four (zBh d0) (zBh d1) (zBh d2) (zBh d3) _ _ _ _ hW.symm
     have HB':=qb _ _ (by simp) (zEs HBR.out _)
     clear hW d0 d1 d2 d3
     refine bodyPost_ret (v:=.tuple #[.agg #[.int .i64 0,.string ⟨#[]⟩,.int .i64 0,.slice none 0 0],.bool false]) (by simp [results,Tryz.results83,go_sem,q0,q1,q2,q3]) rfl ?_
     exact ⟨.slice none 0 0,by rw [HS2.out];rfl,by rw [HS2.out];exact zAa.nil_ 0 (Nat.zero_le _) none,HB'⟩
theorem zAt (w:World) (o:Obj):Below w.heap.size w (w.alloc o):=blA w o
theorem zCb {W X:World} (h:Below W.heap.size W X) (o:Obj):Below W.heap.size W (X.alloc o):=zAp h o
theorem na_c (W:World) (arr:Array Value) (T:TypeId) (b o:Nat) (hb:b = W.heap.size):(W.alloc (.cells arr T)).cell? ⟨b,o,none⟩ = arr[o]?:=newC W arr T b o hb
theorem na_f (W:World) (arr:Array Value) (T:TypeId) (b o:Nat) (hb:b = W.heap.size):(W.alloc (.cells arr T)).frozen? ⟨b,o,none⟩ = false:=newF W arr T b o hb
theorem zDo (W:World) (B:Obj) (b o:Nat) (x:Option Value) (hb:b < W.heap.size) (h:W.cell? ⟨b,o,none⟩ = x):(W.alloc B).cell? ⟨b,o,none⟩ = x:=oldC W B b o x hb h
theorem zD1 (W:World) (arr:Array Value) (T:TypeId) (B:Obj) (b o:Nat) (hb:b = W.heap.size):((W.alloc (.cells arr T)).alloc B).cell? ⟨b,o,none⟩ = arr[o]?:=by
 rw [(zAt (W.alloc (.cells arr T)) B).cell (by simp;omega)];exact na_c W arr T b o hb
def zAg (t:Tree) (p:List Int):Tree × Int:=if zAf t = false then (zAx,1) else if (zAm t p).2 = false then (zAx,8) else ((zAm t p).1,0)
def RowP (S:Nat→Prop) (w:World) (k:Int) (x:ByteArray) (c:Int) (ts:List Tree) (er:Int) (e:Ending) (w':World):Prop :=
 ∃ v,e = .returned (.tuple #[.agg #[.int .i64 k,.string x,.int .i64 c,v],.int .i64 er])∧zAa zAb w' S ts v∧Below w.heap.size w w'
set_option maxHeartbeats 2000000 in
theorem zF0 (t:Tree) (p:List Int) (A Ap:Option Addr) (cap cp:Nat) (w:World) (S:Nat→Prop) (hS:∀ k,S k→k < w.heap.size) (hv:zAa zAb w S t.kids (.slice A t.kids.length cap)) (htx:t.text.size≤maxLen) (hct:zAe t≤900000) (hp:zAh w (Lt w.heap.size) p (.slice Ap p.length cp)) :
  Calls Tryz.prog 48 #[.agg #[.int .i64 t.kind,.string t.text,.int .i64 t.cols,.slice A t.kids.length cap],.slice Ap p.length cp] w (RowP S w (zAg t p).1.kind (zAg t p).1.text (zAg t p).1.cols (zAg t p).1.kids (zAg t p).2):=by
 have C1:Hid (∀ W,Below w.heap.size w W→Calls Tryz.prog 35 #[.agg #[.int .i64 t.kind,.string t.text,.int .i64 t.cols,.slice A t.kids.length cap]] W fun e w'=>e = .returned (.bool (zAf t))∧Below W.heap.size W w'):=fun W hW=>zDx t A cap W (hv.keep (fun q hq=>hW.cell (hS _ hq)) (fun q hq=>Nat.lt_of_lt_of_le (hS _ hq) hW.size)) htx (by omega)
 have C2:Hid (∀ W,Below w.heap.size w W→Calls Tryz.prog 83 #[.agg #[.int .i64 t.kind,.string t.text,.int .i64 t.cols,.slice A t.kids.length cap],.slice Ap p.length cp] W (zOe S W (zAm t p))):=fun W hW=>find_any t p W _ _ S (fun k h=>Nat.lt_of_lt_of_le (hS _ h) hW.size) (hv.keep (fun q hq=>hW.cell (hS _ hq)) (fun _ h=>h)) (hp.below hW hW.size)
 have HR:Hid (zAg t p = if zAf t = false then (zAx,1) else if (zAm t p).2 = false then (zAx,8) else ((zAm t p).1,0)):=rfl
 generalize zAg t p = r at *
 generalize zAm t p = f at *
 generalize zAf t = b1 at *
 obtain ⟨tk,tx,tc,ts⟩:=t
 obtain ⟨ft,b2⟩:=f
 obtain ⟨fk,fx,fc,fs⟩:=ft
 obtain ⟨⟨rk,rx,rc,rt⟩,re⟩:=r
 simp only [Tree.kind,Tree.text,Tree.cols,Tree.kids] at *
 have HSS:=hid hS
 clear hS hv htx hct hp
 generalize hW0:(w.alloc (Obj.cells #[.int .i64 tk,.string tx,.int .i64 tc,.slice A ts.length cap] 24)).alloc (.cells #[.int .i64 0,.string ⟨#[]⟩,.int .i64 0,.slice none 0 0] 24) = W0
 have KB:Hid (∀ W,Below W0.heap.size W0 W→(W.cell? ⟨w.heap.size,0,none⟩ = some (.int .i64 tk)∧W.cell? ⟨w.heap.size,1,none⟩ = some (.string tx)∧W.cell? ⟨w.heap.size,2,none⟩ = some (.int .i64 tc)∧W.cell? ⟨w.heap.size,3,none⟩ = some (.slice A ts.length cap)) ∧
   (W.cell? ⟨w.heap.size + 1,0,none⟩ = some (.int .i64 0)∧W.cell? ⟨w.heap.size + 1,1,none⟩ = some (.string ⟨#[]⟩)∧W.cell? ⟨w.heap.size + 1,2,none⟩ = some (.int .i64 0)∧W.cell? ⟨w.heap.size + 1,3,none⟩ = some (.slice none 0 0)) ∧
   (W.frozen? ⟨w.heap.size + 1,0,none⟩ = false∧W.frozen? ⟨w.heap.size + 1,1,none⟩ = false∧W.frozen? ⟨w.heap.size + 1,2,none⟩ = false∧W.frozen? ⟨w.heap.size + 1,3,none⟩ = false)∧Below w.heap.size w W∧w.heap.size + 1 < W.heap.size):=by
  intro W hW
  have hz:W0.heap.size = w.heap.size + 1 + 1:=by rw [← hW0];simp
  have hc:=(bcell hW).1
  have hf:=(bcell hW).2
  have hbb:Below w.heap.size w W0:=by rw [← hW0];exact zCb (zAt _ _) _
  refine ⟨⟨(hc _ _ (by omega)).trans ?_,(hc _ _ (by omega)).trans ?_,(hc _ _ (by omega)).trans ?_,(hc _ _ (by omega)).trans ?_⟩,⟨(hc _ _ (by omega)).trans ?_,(hc _ _ (by omega)).trans ?_,(hc _ _ (by omega)).trans ?_,(hc _ _ (by omega)).trans ?_⟩,⟨(hf _ _ (by omega)).trans ?_,(hf _ _ (by omega)).trans ?_,(hf _ _ (by omega)).trans ?_,(hf _ _ (by omega)).trans ?_⟩,hbb.trans (hW.mono hbb.size),by have:=hW.size;omega⟩
  all_goals (rw [← hW0];first | exact zD1 _ _ _ _ _ _ rfl | exact na_c _ _ _ _ _ (by simp) | exact na_f _ _ _ _ _ (by simp))
 rcases b1 with _ | _
 ·clear C2
  obtain ⟨⟨m0,m1,m2,m3⟩,⟨c0,c1,c2,c3⟩,⟨f0,f1,f2,f3⟩,hbw0,hz0⟩:=KB.out W0 (Below.refl _ _)
  have HBW0:=hid hbw0
  clear hbw0
  go_enter Tryz.func48,Tryz.ntmps48
  go_wp2_with fail
  refine (C1.out _ HBW0.out).mono ?_
  rintro e w1 ⟨rfl,hb1⟩
  clear m0 m1 m2 m3 c0 c1 c2 c3 f0 f1 f2 f3 hz0
  obtain ⟨⟨m0,m1,m2,m3⟩,hr1,⟨f0,f1,f2,f3⟩,hbw1,hz1⟩:=KB.out w1 hb1
  have HBL1:=hid hb1
  have HBW1:=hid hbw1
  obtain ⟨c0,c1,c2,c3⟩:=hr1
  have HR1:=hid (And.intro c0 (And.intro c1 (And.intro c2 c3)))
  clear hb1 hbw1
  go_wp2_with fail
  generalize hW:(((w1.setCell _ (.int .i64 0)).setCell _ (.string ⟨#[]⟩)).setCell _ (.int .i64 0)).setCell _ (.slice none 0 0) = W
  obtain ⟨⟨r0,r1,r2,r3⟩,rz,rb,ro,_⟩:=four HR1.out.1 HR1.out.2.1 HR1.out.2.2.1 HR1.out.2.2.2 _ _ _ _ hW.symm
  have HB':=hid (rb w.heap.size w (by omega) HBW1.out)
  have HRO:Hid (∀ q:Addr,q.block≠w.heap.size + 1→W.cell? q = (w1).cell? q):=ro
  clear hW ro rb
  refine bodyPost_ret (v:=.tuple #[.agg #[.int .i64 0,.string ⟨#[]⟩,.int .i64 0,.slice none 0 0],.int .i64 1]) (by simp [results,Tryz.results48,go_sem,r0,r1,r2,r3]) rfl ?_
  have h:=HR.out
  simp [zAx] at h
  obtain ⟨⟨h1,h2,h3,h4⟩,h5⟩:=h
  rw [h1,h2,h3,h4,h5]
  exact ⟨_,rfl,zAa.nil_ 0 (Nat.zero_le _) none,HB'.out⟩
 rcases b2 with _ | _
 ·obtain ⟨⟨m0,m1,m2,m3⟩,⟨c0,c1,c2,c3⟩,⟨f0,f1,f2,f3⟩,hbw0,hz0⟩:=KB.out W0 (Below.refl _ _)
  have HBW0:=hid hbw0
  clear hbw0
  go_enter Tryz.func48,Tryz.ntmps48
  go_wp2_with fail
  refine (C1.out _ HBW0.out).mono ?_
  rintro e w1 ⟨rfl,hb1⟩
  clear m0 m1 m2 m3 c0 c1 c2 c3 f0 f1 f2 f3 hz0
  obtain ⟨⟨m0,m1,m2,m3⟩,hr1,⟨f0,f1,f2,f3⟩,hbw1,hz1⟩:=KB.out w1 hb1
  have HBL1:=hid hb1
  have HBW1:=hid hbw1
  obtain ⟨c0,c1,c2,c3⟩:=hr1
  have HR1:=hid (And.intro c0 (And.intro c1 (And.intro c2 c3)))
  clear hb1 hbw1
  go_wp2_with fail
  refine (C2.out _ HBW1.out).mono ?_
  intro e w2 h
  obtain ⟨v2,rfl,hi2,hb2⟩:∃ v,e = .returned (.tuple #[.agg #[.int .i64 fk,.string fx,.int .i64 fc,v],.bool false])∧zAa zAb w2 S fs v∧Below w1.heap.size w1 w2:=h
  obtain ⟨A2,c2n,rfl⟩:=hi2.form
  have HI2:=hid hi2
  clear m0 m1 m2 m3 c0 c1 c2 c3 f0 f1 f2 f3 hi2
  have HBL2:=hid (HBL1.out.trans (hb2.mono HBL1.out.size))
  obtain ⟨⟨m0,m1,m2,m3⟩,hr2,⟨f0,f1,f2,f3⟩,hbw2,hz2⟩:=KB.out w2 HBL2.out
  have HBW2:=hid hbw2
  obtain ⟨c0,c1,c2,c3⟩:=hr2
  have HR2:=hid (And.intro c0 (And.intro c1 (And.intro c2 c3)))
  clear hb2 hbw2
  go_wp2_with fail
  generalize hW:(((w2.setCell _ (.int .i64 0)).setCell _ (.string ⟨#[]⟩)).setCell _ (.int .i64 0)).setCell _ (.slice none 0 0) = W
  obtain ⟨⟨r0,r1,r2,r3⟩,rz,rb,ro,_⟩:=four HR2.out.1 HR2.out.2.1 HR2.out.2.2.1 HR2.out.2.2.2 _ _ _ _ hW.symm
  have HB':=hid (rb w.heap.size w (by omega) HBW2.out)
  have HRO:Hid (∀ q:Addr,q.block≠w.heap.size + 1→W.cell? q = w2.cell? q):=ro
  have hzW:w.heap.size + 1 < W.heap.size:=by rw [rz];exact hz2
  replace r0:=zDo W (Obj.cells #[.int .i64 fk,.string fx,.int .i64 fc,.slice A2 fs.length c2n] 24) _ _ _ hzW r0
  replace r1:=zDo W (Obj.cells #[.int .i64 fk,.string fx,.int .i64 fc,.slice A2 fs.length c2n] 24) _ _ _ hzW r1
  replace r2:=zDo W (Obj.cells #[.int .i64 fk,.string fx,.int .i64 fc,.slice A2 fs.length c2n] 24) _ _ _ hzW r2
  replace r3:=zDo W (Obj.cells #[.int .i64 fk,.string fx,.int .i64 fc,.slice A2 fs.length c2n] 24) _ _ _ hzW r3
  clear hW ro rb
  refine bodyPost_ret (v:=.tuple #[.agg #[.int .i64 0,.string ⟨#[]⟩,.int .i64 0,.slice none 0 0],.int .i64 8]) (by simp [results,Tryz.results48,go_sem,r0,r1,r2,r3]) rfl ?_
  have h:=HR.out
  simp [zAx] at h
  obtain ⟨⟨h1,h2,h3,h4⟩,h5⟩:=h
  rw [h1,h2,h3,h4,h5]
  exact ⟨_,rfl,zAa.nil_ 0 (Nat.zero_le _) none,zCb HB'.out _⟩
 ·obtain ⟨⟨m0,m1,m2,m3⟩,⟨c0,c1,c2,c3⟩,⟨f0,f1,f2,f3⟩,hbw0,hz0⟩:=KB.out W0 (Below.refl _ _)
  have HBW0:=hid hbw0
  clear hbw0
  go_enter Tryz.func48,Tryz.ntmps48
  go_wp2_with fail
  refine (C1.out _ HBW0.out).mono ?_
  rintro e w1 ⟨rfl,hb1⟩
  clear m0 m1 m2 m3 c0 c1 c2 c3 f0 f1 f2 f3 hz0
  obtain ⟨⟨m0,m1,m2,m3⟩,hr1,⟨f0,f1,f2,f3⟩,hbw1,hz1⟩:=KB.out w1 hb1
  have HBL1:=hid hb1
  have HBW1:=hid hbw1
  obtain ⟨c0,c1,c2,c3⟩:=hr1
  have HR1:=hid (And.intro c0 (And.intro c1 (And.intro c2 c3)))
  clear hb1 hbw1
  go_wp2_with fail
  refine (C2.out _ HBW1.out).mono ?_
  intro e w2 h
  obtain ⟨v2,rfl,hi2,hb2⟩:∃ v,e = .returned (.tuple #[.agg #[.int .i64 fk,.string fx,.int .i64 fc,v],.bool true])∧zAa zAb w2 S fs v∧Below w1.heap.size w1 w2:=h
  obtain ⟨A2,c2n,rfl⟩:=hi2.form
  have HI2:=hid hi2
  clear m0 m1 m2 m3 c0 c1 c2 c3 f0 f1 f2 f3 hi2
  have HBL2:=hid (HBL1.out.trans (hb2.mono HBL1.out.size))
  obtain ⟨⟨m0,m1,m2,m3⟩,hr2,⟨f0,f1,f2,f3⟩,hbw2,hz2⟩:=KB.out w2 HBL2.out
  have HBW2:=hid hbw2
  obtain ⟨c0,c1,c2,c3⟩:=hr2
  have HR2:=hid (And.intro c0 (And.intro c1 (And.intro c2 c3)))
  clear hb2 hbw2
  go_wp2_with fail
  generalize hW:(((w2.setCell _ (.int .i64 fk)).setCell _ (.string fx)).setCell _ (.int .i64 fc)).setCell _ (.slice A2 fs.length c2n) = W
  obtain ⟨⟨r0,r1,r2,r3⟩,rz,rb,ro,_⟩:=four HR2.out.1 HR2.out.2.1 HR2.out.2.2.1 HR2.out.2.2.2 _ _ _ _ hW.symm
  have HB':=hid (rb w.heap.size w (by omega) HBW2.out)
  have HRO:Hid (∀ q:Addr,q.block≠w.heap.size + 1→W.cell? q = w2.cell? q):=ro
  have hzW:w.heap.size + 1 < W.heap.size:=by rw [rz];exact hz2
  replace r0:=zDo W (Obj.cells #[.int .i64 fk,.string fx,.int .i64 fc,.slice A2 fs.length c2n] 24) _ _ _ hzW r0
  replace r1:=zDo W (Obj.cells #[.int .i64 fk,.string fx,.int .i64 fc,.slice A2 fs.length c2n] 24) _ _ _ hzW r1
  replace r2:=zDo W (Obj.cells #[.int .i64 fk,.string fx,.int .i64 fc,.slice A2 fs.length c2n] 24) _ _ _ hzW r2
  replace r3:=zDo W (Obj.cells #[.int .i64 fk,.string fx,.int .i64 fc,.slice A2 fs.length c2n] 24) _ _ _ hzW r3
  clear hW ro rb
  refine bodyPost_ret (v:=.tuple #[.agg #[.int .i64 fk,.string fx,.int .i64 fc,.slice A2 fs.length c2n],.int .i64 0]) (by simp [results,Tryz.results48,go_sem,r0,r1,r2,r3]) rfl ?_
  have h:=HR.out
  simp [zAx] at h
  obtain ⟨⟨h1,h2,h3,h4⟩,h5⟩:=h
  rw [h1,h2,h3,h4,h5]
  exact ⟨_,rfl,HI2.out.keep (fun q hq=>((zAt _ _).cell (Nat.lt_of_lt_of_le (HSS.out _ hq) HB'.out.size)).trans (HRO.out q (Nat.ne_of_lt (Nat.lt_succ_of_lt (HSS.out _ hq))))) (fun _ h=>h),zCb HB'.out _⟩
theorem rRow_any (t:Tree) (p:List Int) (A Ap:Option Addr) (cap cp:Nat) (w:World) (hv:zAa zAb w (Lt w.heap.size) t.kids (.slice A t.kids.length cap)) (htx:t.text.size≤maxLen) (hct:zAe t≤900000) (hp:zAh w (Lt w.heap.size) p (.slice Ap p.length cp)) :
  Calls Tryz.prog 48 #[.agg #[.int .i64 t.kind,.string t.text,.int .i64 t.cols,.slice A t.kids.length cap],.slice Ap p.length cp] w (RowP (Lt w.heap.size) w (zAg t p).1.kind (zAg t p).1.text (zAg t p).1.cols (zAg t p).1.kids (zAg t p).2):=zF0 t p A Ap cap cp w (Lt w.heap.size) (fun _ h=>h) hv htx hct hp
end Go.Proofs.YtbjcioknfjofkaaGreat
