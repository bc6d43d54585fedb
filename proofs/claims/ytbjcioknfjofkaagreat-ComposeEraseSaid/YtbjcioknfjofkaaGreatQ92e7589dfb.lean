/- Texts put together. -/
import Derived.Test.YtbjcioknfjofkaaGreatQ5a422e823d
import Derived.Test.YtbjcioknfjofkaaGreatQedd1d24126
set_option linter.unusedVariables false
set_option linter.unusedSimpArgs false
set_option maxRecDepth 100000
namespace Go.Proofs.YtbjcioknfjofkaaGreat
open Go.RowKit
set_option maxHeartbeats 4000000 in
theorem zQl (op:OpD) (l:List Tree) (a b lr s:Nat) (t0:Tree) (L0:List Tree) (Ar An A:Option Addr) (cr cn cap:Nat) (w:World) (S:Nat→Prop) (hS:∀ q,S q→q < w.heap.size) (hl:zAa zAb w S l (.slice A l.length cap)) (hn:zAa zAb w S op.nodes (.slice An op.nodes.length cn))
  (hnd:op.nodes = [t0]) (hs:op.slot = s) (hs2:s < t0.kids.length) (hk0:t0.kids[s] = rowT L0) (hct:zAe t0≤1000000) (ha:op.at_ = a) (hb:op.at_ + op.n = b) (hab:a≤b) (hbl:b≤l.length) (hll:l.length≤400000) :
  Calls Tryz.prog 127 #[.agg (chC op (.slice Ar lr cr) (.slice An op.nodes.length cn) (.slice A l.length cap))] w (zCa S w (zAv l a b [zAr t0 s ((l.take b).drop a)],0)):=by
 obtain ⟨W0,hW0,hz,KB⟩:=zO6 op (.slice Ar lr cr) (.slice An op.nodes.length cn) (.slice A l.length cap) w
 have KBH:=hid KB
 obtain ⟨⟨⟨m0,m1,m2,m3,m4,m5,m6,m7⟩,m8⟩,hB0⟩:=KB W0 (Below.refl _ _)
 have HB0:=hid hB0
 have hn1:=slLe hl
 obtain ⟨A1,hsl,hcut⟩:=zIj zAb Tryz.underlying22 zCp A l.length cap op.at_ (op.at_ + op.n) a b ha hb hab hbl hn1
 have hlen:((l.take b).drop a).length = b - a:=by simp;omega
 have v1:IntKind.i64.wrap (op.at_ + op.n) = op.at_ + op.n:=IntWalk.i64_in _ (by omega)
 have hlw:∀ W,Below w.heap.size w W→zAa zAb W S l (.slice A l.length cap):=fun W hW=>zBg hl hS hW
 have HLW:=hid hlw
 have CC:Hid (∀ W,Below w.heap.size w W→Calls Tryz.prog 168 #[.slice A1 (b - a) (cap - a)] W (zEb S W ((l.take b).drop a))):=fun W hW=>by
  have h:=zO4 ((l.take b).drop a) W (.slice A1 (b - a) (cap - a)) S (fun q hq=>Nat.lt_of_lt_of_le (hS q hq) hW.size) (hcut _ _ _ (hlw W hW)) (by rw [hlen];omega)
  exact h
 have hJ:∀ W gg v5 (R:Tree),zAu R→Below w.heap.size w W→gg = W.heap.size→zAa zAb W (fun q=>S q∨w.heap.size≤q∧q < W.heap.size) R.kids v5→Calls Tryz.prog 165 #[.agg (chC op (.slice Ar lr cr) (.slice An op.nodes.length cn) (.slice A l.length cap)),.int .i64 op.n,.slice (some ⟨gg,0,none⟩) 1 1] (W.alloc (Obj.cells #[.int .i64 R.kind,.string R.text,.int .i64 R.cols,v5] 24)) (zEb S w (zAv l a b [R])):=fun W gg v5 R hok hW hgg hr=>by
  subst hgg
  have hab':a≤l.length:=by omega
  obtain ⟨k,x,c,ts⟩:=R
  have h9:=hW.trans ((blA W (Obj.cells #[.int .i64 k,.string x,.int .i64 c,v5] 24)).mono hW.size)
  have hSW:∀ q,(S q∨w.heap.size≤q∧q < W.heap.size)→q < W.heap.size:=fun q hq=>by
   rcases hq with hq | hq
   ·exact Nat.lt_of_lt_of_le (hS q hq) hW.size
   ·exact hq.2
  exact (zGa op l [.mk k x c ts] op.n a b lr Ar A _ (.slice An op.nodes.length cn) cr cap 1 _ (fun q=>(S q∨w.heap.size≤q∧q < W.heap.size)∨q = W.heap.size) (fun q hq=>by
   rcases hq with hq | rfl
   ·exact Nat.lt_of_lt_of_le (hSW q hq) (by simp)
   ·simp) ((zBg hl hS h9).keep (fun _ _=>rfl) (fun _ h=>.inl (.inl h))) (litS hSW hok hr) ha (by omega) hab' hbl (by simp;omega)).mono fun e w' h=>h.wide (fun q hq=>by
    rcases hq with (hq | hq) | rfl
    ·exact .inl hq
    ·exact .inr ⟨hq.1,by simp;omega⟩
    ·exact .inr ⟨hW.size,by simp⟩) h9
 have HJ:=hid hJ
 obtain ⟨kind,row,at_,n,nodes,slot,old,text⟩:=op
 simp only [chC] at *
 subst hnd hs
 obtain ⟨_,_,rs0,hq,_,_,hrd0,hls0⟩:=hn
 cases hq
 obtain ⟨g0,o0,A0,c0,rs1,rfl,hg0,t00,t01,t02,t03,b1,b2,b3,b4,b5,hrd1,hls1⟩:=zAy hrd0 hls0 (k:=0) (by simp)
 simp only [Nat.zero_mul,Nat.add_zero,List.getElem_cons_zero,List.length_cons,List.length_nil,Nat.zero_add] at *
 have hok0:zAu t0:=⟨b1,b2,b3⟩
 have ht0v:zAa zAb w S t0.kids (.slice A0 t0.kids.length c0):=⟨_,_,rs1,rfl,b4,b5,hrd1,hls1⟩
 have hgl0:g0 < w.heap.size:=hS g0 hg0
 have q0:=(hB0.cell (p:=⟨g0,_,none⟩) hgl0).trans t00
 have q1:=(hB0.cell (p:=⟨g0,_,none⟩) hgl0).trans t01
 have q2:=(hB0.cell (p:=⟨g0,_,none⟩) hgl0).trans t02
 have q3:=(hB0.cell (p:=⟨g0,_,none⟩) hgl0).trans t03
 have CD:=hid (zDt t0 A0 c0 W0 (zFl ht0v hS hB0) hok0 hct)
 have i0:(0:Int)≤(s:Int):=by omega
 have i1:(s:Int) < (t0.kids.length:Int):=by omega
 obtain ⟨L,hL⟩:∃ L,L = (l.take b).drop a:=⟨_,rfl⟩
 rw [← hL] at CC ⊢
 generalize b - a = n2 at *
 have HK0:=hid hk0
 have HOK0:=hid hok0
 have HS2:=hid hs2
 have HSS:=hid hS
 clear hl hS KB hB0 hcut hlen hn1 hlw hJ hrd0 hls0 hrd1 hls1 t00 t01 t02 t03 b1 b2 b3 b4 b5 ht0v ha hb hab hbl hll hct hL hk0 hok0
 go_enter Tryz.func127,Tryz.ntmps127
 go_wp2_with fail
 refine CD.out.mono ?_
 rintro e w1 ⟨v,T,rfl,hb1,hT,hr1,hlin,hfree,_⟩
 obtain ⟨bb,x,c,rfl,hTb⟩:=zGo hr1 (by omega)
 obtain ⟨W1,hW1⟩:∃ W1,w1.alloc (Obj.cells #[.int .i64 t0.kind,.string t0.text,.int .i64 t0.cols,.slice (some ⟨bb,x,none⟩) t0.kids.length c] 24) = W1:=⟨_,rfl⟩
 obtain ⟨B,hB⟩:∃ B,B = w1.heap.size:=⟨_,rfl⟩
 have hb2:Below w1.heap.size w1 W1:=by rw [← hW1];exact blA _ _
 have hbW:Below W0.heap.size W0 W1:=hb1.trans (hb2.mono hb1.size)
 have hBB:¬ T B:=fun h=>by have:=(hT B h).2;omega
 have hne:bb≠B:=fun e=>hBB (e ▸ hTb)
 have hN1:zC3 W1 T B 0 t0:=⟨_,by refine ⟨?_,?_,?_,?_⟩ <;> (rw [hB,← hW1,World.cell?_alloc_new];rfl),HOK0.out,hr1.keep (fun q hq=>hb2.cell (hT _ hq).2) (fun _ h=>h)⟩
 have hB3:W1.cell? ⟨B,3,none⟩ = some (.slice (some ⟨bb,x,none⟩) t0.kids.length c):=by rw [hB,← hW1,World.cell?_alloc_new];rfl
 have hBlt:B < W1.heap.size:=zBd hB3
 -- all that later worlds keep
 have KC:Hid (∀ W,Below W1.heap.size W1 W→zDc W T∧(∀ k,T k→k < W.heap.size)∧zC3 W T B 0 t0∧W.cell? ⟨B,3,none⟩ = some (.slice (some ⟨bb,x,none⟩) t0.kids.length c)∧(∃ u,W.cell? ⟨bb,x + s * 4 + 3,none⟩ = some u)∧W.frozen? ⟨bb,x + s * 4 + 3,none⟩ = false):=fun W hW=>by
  have hTW:∀ k,T k→k < W1.heap.size:=fun k hk=>Nat.lt_of_lt_of_le (hT k hk).2 hb2.size
  have h1:=(hlin.keep (fun q hq=>hb2.cell (hT _ hq).2)).keep (W':=W) (fun q hq=>hW.cell (hTW _ hq))
  obtain ⟨u,hu1,hu2,hu3⟩:=hN1
  have h3:zC3 W T B 0 t0:=⟨u,hu1.keep (fun j _=>hW.cell (p:=⟨B,_,none⟩) hBlt),hu2,hu3.keep (fun q hq=>hW.cell (hTW _ hq)) (fun _ h=>h)⟩
  have h4:=(hW.cell (p:=⟨B,3,none⟩) hBlt).trans hB3
  obtain ⟨u2,⟨_,_,_,k3⟩,_⟩:=zJj h3 (by simpa using h4) HS2.out
  exact ⟨h1,fun k hk=>Nat.lt_of_lt_of_le (hTW k hk) hW.size,h3,h4,⟨u2,k3⟩,(hW.frozen (p:=⟨bb,_,none⟩) (hTW _ hTb)).trans ((hb2.frozen (p:=⟨bb,_,none⟩) (hT _ hTb).2).trans (hfree bb hTb _))⟩
 have KD:Hid (∀ W,Below W1.heap.size W1 W→Below W0.heap.size W0 W):=fun W hW=>hbW.trans (hW.mono hbW.size)
 have HTG:Hid (∀ k,T k→W0.heap.size≤k):=fun k hk=>(hT k hk).1
 have HTB:Hid (W0.heap.size≤bb∧bb < w1.heap.size):=hT bb hTb
 obtain ⟨⟨⟨m0,m1,m2,m3,m4,m5,m6,m7⟩,m8⟩,hbw1⟩:=KBH.out W1 hbW
 have HBW:=hid hbw1
 have HTBb:=hid hTb
 have n1:¬ w.heap.size = bb:=by have:=HTB.out.1;omega
 have n2':¬ bb = w.heap.size:=by have:=HTB.out.1;omega
 have n3:¬ w1.heap.size = bb:=by have:=HTB.out.2;omega
 have n4:¬ bb = w1.heap.size:=by have:=HTB.out.2;omega
 have HBB:=hid hBB
 obtain ⟨_,_,_,_,⟨u5,k5⟩,f5⟩:=KC.out W1 (Below.refl _ _)
 clear hr1 hlin hfree hN1 hb1 hb2 hbW hT hTb hBB hbw1
 subst hB
 go_upto_region 2 with fail
 try rw [hW1]
 clear hW1
 go_wp2_with fail
 go_region_held3 (fun w'=>w'.cell? ⟨w.heap.size,2,none⟩ = some (.int .i64 at_)∧w'.cell? ⟨w.heap.size,3,none⟩ = some (.int .i64 n)∧w'.cell? ⟨w.heap.size,5,none⟩ = some (.int .i64 (s:Int))∧w'.cell? ⟨w.heap.size,8,none⟩ = some (.slice A l.length cap)∧w'.cell? ⟨w1.heap.size,3,none⟩ = some (.slice (some ⟨bb,x,none⟩) t0.kids.length c)) (go_keep) (first
  | (go_at_call 168;refine (CC.out _ (zC2 HBW.out)).mono ?_;rintro e w5 ⟨v5,rfl,hr5,hb5⟩;obtain ⟨A5,c5,rfl⟩:=hr5.form;have HR5:=hid hr5;have HB5:=hid (zC7 hb5);clear hr5 hb5;obtain ⟨⟨⟨m0,m1,m2,m3,m4,m5,m6,m7⟩,m8⟩,hbw⟩:=KBH.out _ (KD.out w5 HB5.out);obtain ⟨_,_,_,hB3,⟨u5,k5⟩,f5⟩:=KC.out w5 HB5.out;clear hbw))
 obtain ⟨hl5,hT5,hN5,hB5',_,_⟩:=KC.out w5 HB5.out
 have hs1:w1.heap.size < W1.drew.heap.size:=hBlt
 have hst:=zIq (T':=fun q=>S q∨w.heap.size≤q∧q < w5.heap.size) (W':=w5.setCell ⟨bb,x + s * 4 + 3,none⟩ (.slice A5 L.length c5)) hl5 hT5 HBB.out hN5 HS2.out hB5' HTBb.out HK0.out HR5.out (fun q hq=>by
  have h1:=HTB.out
  have h2:w.heap.size≤w5.heap.size:=Nat.le_trans HBW.out.size HB5.out.size
  rcases hq with hq | hq
  ·have hq:=HSS.out q hq
   exact ⟨by omega,by omega⟩
  ·exact ⟨by omega,hq.2⟩) (fun k hk=>.inr ⟨Nat.le_trans HB0.out.size (HTG.out k hk),hT5 k hk⟩) (fun k hk=>by
  rcases hk with hk | hk
  ·exact .inl hk
  ·exact .inr ⟨by have h1:=HTB.out;have h2:=HB0.out.size;omega,hk.2⟩) rfl
 have hb6:=(KD.out w5 HB5.out).setCell (p:=⟨bb,x + s * 4 + 3,none⟩) HTB.out.1 (.slice A5 L.length c5)
 have HZ6:Hid ((w5.setCell ⟨bb,x + s * 4 + 3,none⟩ (.slice A5 L.length c5)).heap.size = w5.heap.size):=by show _ = _;simp [World.setCell]
 have e9:(w5.setCell ⟨bb,x + s * 4 + 3,none⟩ (.slice A5 L.length c5)).cell? ⟨w1.heap.size,3,none⟩ = some (.slice (some ⟨bb,x,none⟩) t0.kids.length c):=(World.cell?_setCell_other _ _ _ _ (by intro e;injection e with e;omega)).trans hB5'
 generalize (w5.setCell ⟨bb,x + s * 4 + 3,none⟩ (.slice A5 L.length c5)) = W6 at *
 obtain ⟨v6,⟨e0,e1,e2,e3⟩,hok6,hr6⟩:=hst
 obtain rfl:v6 = _:=Option.some.inj (e3.symm.trans e9)
 obtain ⟨⟨⟨m0,m1,m2,m3,m4,m5,m6,m7⟩,m8⟩,hb6w⟩:=KBH.out W6 hb6
 generalize zAr t0 s L = R at *
 have HH:=hid (HJ.out W6 _ _ R hok6 hb6w rfl (by rw [HZ6.out];exact hr6))
 clear hb6 hb6w hok6 hr6 hl5 hT5 hN5 hB5'
 simp only [Nat.zero_add] at e0 e1 e2 e3
 go_wp2_with fail
 refine HH.out.mono ?_
 rintro e w7 ⟨v7,rfl,hr7,hb7⟩
 have HR7:=hid hr7
 have HB7:=hid hb7
 clear hr7 hb7
 go_wp2_with fail
 refine bodyPost_ret (v:=.tuple #[v7,.int .i64 0]) (by simp [results,Tryz.results127,go_sem]) rfl ?_
 exact ⟨v7,rfl,HR7.out,HB7.out⟩
def zKu (l:List Tree) (a s:Nat) (n:Int) (it nd:Tree):List Tree × Int :=
 if it.kids.length≤s then ([],7) else if (((it.kids.getD s zAx).kids.length:Int) != n) = true then ([],7) else if eqS it (zAr nd s (it.kids.getD s zAx).kids) = true then (zAv l a (a + 1) (it.kids.getD s zAx).kids,0) else ([],7)
set_option maxHeartbeats 4000000 in
theorem zM5 (op:OpD) (l:List Tree) (a lr s:Nat) (it nd:Tree) (Ar An A:Option Addr) (cr cn cap:Nat) (w:World) (S:Nat→Prop) (hS:∀ q,S q→q < w.heap.size) (hl:zAa zAb w S l (.slice A l.length cap)) (hn:zAa zAb w S op.nodes (.slice An op.nodes.length cn))
  (hnd:op.nodes = [nd]) (hs:op.slot = s) (hs2:s < nd.kids.length) (hk0:nd.kids[s] = rowT []) (ha:op.at_ = a) (hal:a < l.length) (hit:l[a] = it) (hik:(it.kind == 1) = false) (hct:zAe it≤400000) (hri:∀ h:s < it.kids.length,it.kids[s] = rowT it.kids[s].kids) (hll:l.length≤50000) :
  Calls Tryz.prog 128 #[.agg (chC op (.slice Ar lr cr) (.slice An op.nodes.length cn) (.slice A l.length cap))] w (zCa S w (zKu l a s op.n it nd)):=by
 obtain ⟨W0,hW0,hz,KB⟩:=zO6 op (.slice Ar lr cr) (.slice An op.nodes.length cn) (.slice A l.length cap) w
 have KBH:=hid KB
 obtain ⟨⟨⟨m0,m1,m2,m3,m4,m5,m6,m7⟩,m8⟩,hB0⟩:=KB W0 (Below.refl _ _)
 have HB0:=hid hB0
 have hJ:∀ W (R:List Tree) A5 c5,Below w.heap.size w W→R.length≤400000→zAa zAb W (fun q=>S q∨w.heap.size≤q∧q < W.heap.size) R (.slice A5 R.length c5)→Calls Tryz.prog 165 #[.agg (chC op (.slice Ar lr cr) (.slice An op.nodes.length cn) (.slice A l.length cap)),.int .i64 1,.slice A5 R.length c5] W (zEb S w (zAv l a (a + 1) R)):=fun W R A5 c5 hW hR hr =>
  (zGa op l R 1 a (a + 1) lr Ar A A5 (.slice An op.nodes.length cn) cr cap c5 _ (fun q=>S q∨w.heap.size≤q∧q < W.heap.size) (fun q hq=>by
   rcases hq with hq | hq
   ·exact Nat.lt_of_lt_of_le (hS q hq) hW.size
   ·exact hq.2) ((zBg hl hS hW).keep (fun _ _=>rfl) (fun _ h=>.inl h)) hr ha (by omega) (by omega) hal (by omega)).mono fun e w' h=>h.wide (fun q hq=>hq) hW
 have HJ:=hid hJ
 obtain ⟨kind,row,at_,n,nodes,slot,old,text⟩:=op
 simp only [chC] at *
 subst hnd hs ha
 obtain ⟨_,_,rs0,hq,_,_,hrd0,hls0⟩:=hn
 cases hq
 obtain ⟨g0,o0,A0,c0,rs1,rfl,hg0,t00,t01,t02,t03,b1,b2,b3,b4,b5,hrd1,hls1⟩:=zAy hrd0 hls0 (k:=0) (by simp)
 simp only [Nat.zero_mul,Nat.add_zero,List.getElem_cons_zero,List.length_cons,List.length_nil,Nat.zero_add] at *
 have hndv:zAa zAb w S nd.kids (.slice A0 nd.kids.length c0):=⟨_,_,rs1,rfl,b4,b5,hrd1,hls1⟩
 have hgl0:g0 < w.heap.size:=hS g0 hg0
 have KN:Hid (∀ W,Below w.heap.size w W→W.cell? ⟨g0,o0,none⟩ = some (.int .i64 nd.kind)∧W.cell? ⟨g0,o0 + 1,none⟩ = some (.string nd.text)∧W.cell? ⟨g0,o0 + 2,none⟩ = some (.int .i64 nd.cols)∧W.cell? ⟨g0,o0 + 3,none⟩ = some (.slice A0 nd.kids.length c0)):=fun W hW =>
  ⟨(hW.cell (p:=⟨g0,_,none⟩) hgl0).trans t00,(hW.cell (p:=⟨g0,_,none⟩) hgl0).trans t01,(hW.cell (p:=⟨g0,_,none⟩) hgl0).trans t02,(hW.cell (p:=⟨g0,_,none⟩) hgl0).trans t03⟩
 have HNV:=hid hndv
 have hl0:=hl
 obtain ⟨_,_,rs2,hq,_,_,hrd2,hls2⟩:=hl0
 cases hq
 obtain ⟨gi,oi,Ai,ci,rs3,rfl,hgi,i00,i01,i02,i03,d1,d2,d3,d4,d5,hrd3,hls3⟩:=zAy hrd2 hls2 hal
 simp only [hit] at i00 i01 i02 i03 d1 d2 d3 d4 d5 hrd3 hls3
 have hoki:zAu it:=⟨d1,d2,d3⟩
 have hiv:zAa zAb w S it.kids (.slice Ai it.kids.length ci):=⟨_,_,rs3,rfl,d4,d5,hrd3,hls3⟩
 have hgli:gi < w.heap.size:=hS gi hgi
 have q0:=(hB0.cell (p:=⟨gi,_,none⟩) hgli).trans i00
 have q1:=(hB0.cell (p:=⟨gi,_,none⟩) hgli).trans i01
 have q2:=(hB0.cell (p:=⟨gi,_,none⟩) hgli).trans i02
 have q3:=(hB0.cell (p:=⟨gi,_,none⟩) hgli).trans i03
 have CD:=hid (zDt it Ai ci W0 (zFl hiv hS hB0) hoki (by omega))
 have CS:Hid (∀ A' c' W,Calls Tryz.prog 130 #[.agg #[.int .i64 it.kind,.string it.text,.int .i64 it.cols,.slice A' it.kids.length c']] W fun e w'=>e = .returned (.int .i64 it.kids.length)∧Below W.heap.size W w'):=fun A' c' W=>by
  have h:=zK0 it A' c' W
  have e:nslS it = it.kids.length:=by unfold nslS;exact if_neg (by simpa using hik)
  rw [e] at h
  exact h
 have hkl:=zAn it
 have i0:(0:Int)≤(a:Int):=by omega
 have i1:(a:Int) < (l.length:Int):=by omega
 have i2:(0:Int)≤(s:Int):=by omega
 have HK0:=hid hk0
 have HOKI:=hid hoki
 have HS2:=hid hs2
 have HKL:=hid (Nat.le_trans hkl hct)
 have HRI:=hid hri
 have HCK:Hid (∀ h:s < it.kids.length,it.kids[s].kids.length≤400000):=fun h=>by
  have h1:=zDg h
  have h2:=zAn it.kids[s]
  omega
 have HSS:=hid hS
 clear hl hS KB hB0 hJ hrd0 hls0 hrd1 hls1 t00 t01 t02 t03 b1 b2 b3 b4 b5 hndv hal hll hct hk0 hrd2 hls2 hrd3 hls3 i00 i01 i02 i03 d1 d2 d3 d4 d5 hiv hoki hkl hik hri hit
 have hcase:it.kids.length≤s∨s < it.kids.length:=by omega
 rcases hcase with hsl | hsl
 ·have HU:Hid (zKu l a s n it nd = ([],7)):=by show _ = _;unfold zKu;exact if_pos hsl
  rw [HU.out]
  have i3:decide ((it.kids.length:Int)≤(s:Int)) = true:=by simpa using hsl
  clear HU HJ HRI HCK
  go_enter Tryz.func128,Tryz.ntmps128
  go_wp2_with fail
  refine CD.out.mono ?_
  rintro e w1 ⟨v,T,rfl,hb1,hT,hr1,hlin,hfree,_⟩
  obtain ⟨A4,c4,rfl⟩:=hr1.form
  obtain ⟨W1,hW1⟩:∃ W1,w1.alloc (Obj.cells #[.int .i64 it.kind,.string it.text,.int .i64 it.cols,.slice A4 it.kids.length c4] 24) = W1:=⟨_,rfl⟩
  have hb2:Below w1.heap.size w1 W1:=by rw [← hW1];exact blA _ _
  have hbW:Below W0.heap.size W0 W1:=hb1.trans (hb2.mono hb1.size)
  obtain ⟨⟨⟨m0,m1,m2,m3,m4,m5,m6,m7⟩,m8⟩,hbw1⟩:=KBH.out W1 hbW
  have HBW:=hid hbw1
  have HBW0:=hid hbW
  have p0:W1.cell? ⟨w1.heap.size,0,none⟩ = some (.int .i64 it.kind):=by rw [← hW1];exact newC _ _ _ _ _ rfl
  have p1:W1.cell? ⟨w1.heap.size,1,none⟩ = some (.string it.text):=by rw [← hW1];exact newC _ _ _ _ _ rfl
  have p2:W1.cell? ⟨w1.heap.size,2,none⟩ = some (.int .i64 it.cols):=by rw [← hW1];exact newC _ _ _ _ _ rfl
  have p3:W1.cell? ⟨w1.heap.size,3,none⟩ = some (.slice A4 it.kids.length c4):=by rw [← hW1];exact newC _ _ _ _ _ rfl
  clear hr1 hlin hfree hb1 hb2 hbW hT hbw1
  go_upto_region 2 with fail
  try rw [hW1]
  clear hW1
  have KP:Hid (∀ W,Below W1.heap.size W1 W→W.cell? ⟨w1.heap.size,0,none⟩ = some (.int .i64 it.kind)∧W.cell? ⟨w1.heap.size,1,none⟩ = some (.string it.text)∧W.cell? ⟨w1.heap.size,2,none⟩ = some (.int .i64 it.cols)∧W.cell? ⟨w1.heap.size,3,none⟩ = some (.slice A4 it.kids.length c4)):=fun W hW =>
   ⟨(hW.cell (p:=⟨w1.heap.size,0,none⟩) (zBd p0)).trans p0,(hW.cell (p:=⟨w1.heap.size,1,none⟩) (zBd p1)).trans p1,(hW.cell (p:=⟨w1.heap.size,2,none⟩) (zBd p2)).trans p2,(hW.cell (p:=⟨w1.heap.size,3,none⟩) (zBd p3)).trans p3⟩
  go_wp2_with fail
  go_region_held3 (fun w'=>w'.cell? ⟨w.heap.size,5,none⟩ = some (.int .i64 (s:Int))∧w'.cell? ⟨w1.heap.size,0,none⟩ = some (.int .i64 it.kind)∧w'.cell? ⟨w1.heap.size,1,none⟩ = some (.string it.text)∧w'.cell? ⟨w1.heap.size,2,none⟩ = some (.int .i64 it.cols)∧w'.cell? ⟨w1.heap.size,3,none⟩ = some (.slice A4 it.kids.length c4)) (go_keep) (first
   | (go_at_call 130;refine (CS.out _ _ _).mono ?_;rintro e w5 ⟨rfl,hb5⟩;have HB5:=hid (zC7 hb5);clear hb5;obtain ⟨p0,p1,p2,p3⟩:=KP.out w5 HB5.out;obtain ⟨⟨⟨m0,m1,m2,m3,m4,m5,m6,m7⟩,m8⟩,hbw⟩:=KBH.out _ (zAq HBW0.out HB5.out);have HB6:=hid hbw;clear hbw))
  go_wp2_with fail
  refine bodyPost_ret (v:=.tuple #[.slice none 0 0,.int .i64 7]) (by simp [results,Tryz.results128,go_sem]) rfl ?_
  exact ⟨_,rfl,zAa.nil_ 0 (Nat.zero_le _) none,HB6.out⟩
 ·have i3:decide ((it.kids.length:Int)≤(s:Int)) = false:=by simpa using hsl
  have i3':¬ it.kids.length≤s:=by omega
  have i4:(s:Int) < (it.kids.length:Int):=by omega
  obtain ⟨inner,hin⟩:∃ inner,inner = it.kids[s].kids:=⟨_,rfl⟩
  have hrow:=HRI.out hsl
  rw [← hin] at hrow
  have hgd:it.kids.getD s zAx = rowT inner:=by rw [List.getD_eq_getElem?_getD,List.getElem?_eq_getElem hsl,Option.getD_some,hrow]
  have HU:Hid (zKu l a s n it nd = if ((inner.length:Int) != n) = true then ([],7) else if eqS it (zAr nd s inner) = true then (zAv l a (a + 1) inner,0) else ([],7)):=by
   show _ = _;unfold zKu;rw [if_neg (by omega),hgd];rfl
  generalize zKu l a s n it nd = RES at *
  have hil:=HCK.out hsl
  rw [← hin] at hil
  have HEQ:=hid (zOf hsl hrow HS2.out HK0.out)
  have HROW:=hid hrow
  have HSL:=hid hsl
  have HIL:=hid hil
  clear HRI HCK hrow hin hgd hil
  go_enter Tryz.func128,Tryz.ntmps128
  go_wp2_with fail
  refine CD.out.mono ?_
  rintro e w1 ⟨v,T,rfl,hb1,hT,hr1,hlin,hfree,_⟩
  obtain ⟨bb,x,c,rfl,hTb⟩:=zGo hr1 (by omega)
  obtain ⟨W1,hW1⟩:∃ W1,w1.alloc (Obj.cells #[.int .i64 it.kind,.string it.text,.int .i64 it.cols,.slice (some ⟨bb,x,none⟩) it.kids.length c] 24) = W1:=⟨_,rfl⟩
  obtain ⟨B,hB⟩:∃ B,B = w1.heap.size:=⟨_,rfl⟩
  have hb2:Below w1.heap.size w1 W1:=by rw [← hW1];exact blA _ _
  have hbW:Below W0.heap.size W0 W1:=hb1.trans (hb2.mono hb1.size)
  have hBB:¬ T B:=fun h=>by have:=(hT B h).2;omega
  have hN1:zC3 W1 T B 0 it:=⟨_,by refine ⟨?_,?_,?_,?_⟩ <;> (rw [hB,← hW1,World.cell?_alloc_new];rfl),HOKI.out,hr1.keep (fun q hq=>hb2.cell (hT _ hq).2) (fun _ h=>h)⟩
  have hB3:W1.cell? ⟨B,3,none⟩ = some (.slice (some ⟨bb,x,none⟩) it.kids.length c):=by rw [hB,← hW1,World.cell?_alloc_new];rfl
  have hBlt:B < W1.heap.size:=zBd hB3
  have KC:Hid (∀ W,Below W1.heap.size W1 W→zDc W T∧(∀ k,T k→k < W.heap.size)∧zC3 W T B 0 it∧W.cell? ⟨B,3,none⟩ = some (.slice (some ⟨bb,x,none⟩) it.kids.length c)∧zC3 W T bb (x + s * 4) (rowT inner)∧W.frozen? ⟨bb,x + s * 4 + 3,none⟩ = false):=fun W hW=>by
   have hTW:∀ k,T k→k < W1.heap.size:=fun k hk=>Nat.lt_of_lt_of_le (hT k hk).2 hb2.size
   have h1:=(hlin.keep (fun q hq=>hb2.cell (hT _ hq).2)).keep (W':=W) (fun q hq=>hW.cell (hTW _ hq))
   obtain ⟨u,hu1,hu2,hu3⟩:=hN1
   have h3:zC3 W T B 0 it:=⟨u,hu1.keep (fun j _=>hW.cell (p:=⟨B,_,none⟩) hBlt),hu2,hu3.keep (fun q hq=>hW.cell (hTW _ hq)) (fun _ h=>h)⟩
   have h4:=(hW.cell (p:=⟨B,3,none⟩) hBlt).trans hB3
   have h5:=zJj h3 (by simpa using h4) HSL.out
   rw [HROW.out] at h5
   exact ⟨h1,fun k hk=>Nat.lt_of_lt_of_le (hTW k hk) hW.size,h3,h4,h5,(hW.frozen (p:=⟨bb,_,none⟩) (hTW _ hTb)).trans ((hb2.frozen (p:=⟨bb,_,none⟩) (hT _ hTb).2).trans (hfree bb hTb _))⟩
  have KD:Hid (∀ W,Below W1.heap.size W1 W→Below W0.heap.size W0 W):=fun W hW=>hbW.trans (hW.mono hbW.size)
  have HTG:Hid (∀ k,T k→W0.heap.size≤k):=fun k hk=>(hT k hk).1
  have HTB:Hid (W0.heap.size≤bb∧bb < w1.heap.size):=hT bb hTb
  obtain ⟨⟨⟨m0,m1,m2,m3,m4,m5,m6,m7⟩,m8⟩,hbw1⟩:=KBH.out W1 hbW
  have HBW:=hid hbw1
  have HTBb:=hid hTb
  have HBB:=hid hBB
  have n1:¬ w.heap.size = bb:=by have:=HTB.out.1;omega
  have n2':¬ bb = w.heap.size:=by have:=HTB.out.1;omega
  have n3:¬ w1.heap.size = bb:=by have:=HTB.out.2;omega
  have n4:¬ bb = w1.heap.size:=by have:=HTB.out.2;omega
  obtain ⟨_,_,⟨u0,⟨p0,p1,p2,_⟩,_⟩,_⟩:=KC.out W1 (Below.refl _ _)
  clear hr1 hlin hfree hN1 hb1 hb2 hbW hT hTb hBB hbw1
  subst hB
  simp only [Nat.zero_add] at p1 p2
  have KP:Hid (∀ W,Below W1.heap.size W1 W→W.cell? ⟨w1.heap.size,0,none⟩ = some (.int .i64 it.kind)∧W.cell? ⟨w1.heap.size,1,none⟩ = some (.string it.text)∧W.cell? ⟨w1.heap.size,2,none⟩ = some (.int .i64 it.cols)∧W.cell? ⟨w1.heap.size,3,none⟩ = some (.slice (some ⟨bb,x,none⟩) it.kids.length c)):=fun W hW =>
   ⟨(hW.cell (p:=⟨w1.heap.size,0,none⟩) (zBd p0)).trans p0,(hW.cell (p:=⟨w1.heap.size,1,none⟩) (zBd p1)).trans p1,(hW.cell (p:=⟨w1.heap.size,2,none⟩) (zBd p2)).trans p2,(hW.cell (p:=⟨w1.heap.size,3,none⟩) (zBd hB3)).trans hB3⟩
  go_upto_region 2 with fail
  try rw [hW1]
  clear hW1
  go_wp2_with fail
  go_region_held3 (fun w'=>w'.cell? ⟨w.heap.size,5,none⟩ = some (.int .i64 (s:Int))∧w'.cell? ⟨w1.heap.size,0,none⟩ = some (.int .i64 it.kind)∧w'.cell? ⟨w1.heap.size,1,none⟩ = some (.string it.text)∧w'.cell? ⟨w1.heap.size,2,none⟩ = some (.int .i64 it.cols)∧w'.cell? ⟨w1.heap.size,3,none⟩ = some (.slice (some ⟨bb,x,none⟩) it.kids.length c)) (go_keep) (first
   | (go_at_call 130;refine (CS.out _ _ _).mono ?_;rintro e w5 ⟨rfl,hb5⟩;have HB5:=hid (zC7 hb5);clear hb5;obtain ⟨p0,p1,p2,hB3⟩:=KP.out w5 HB5.out;obtain ⟨⟨⟨m0,m1,m2,m3,m4,m5,m6,m7⟩,m8⟩,hbw⟩:=KBH.out _ (KD.out w5 HB5.out);have HB6:=hid hbw;clear hbw))
  obtain ⟨hl5,hT5,hN5,hB5',⟨vi,⟨_,_,_,k5⟩,_,hvi⟩,f5⟩:=KC.out w5 HB5.out
  obtain ⟨Ai2,ci2,rfl⟩:∃ A c,vi = .slice A inner.length c:=hvi.form
  have hvc:=zFq hvi k5
  have hst:=zIq (W':=w5.setCell ⟨bb,x + s * 4 + 3,none⟩ (.slice none 0 0)) (T':=fun q=>w.heap.size≤q∧q < w5.heap.size) (L:=[]) (S2:=fun _=>False) hl5 hT5 HBB.out hN5 HSL.out hB5' HTBb.out HROW.out (zAa.nil_ 0 (Nat.zero_le _) none) (fun q hq=>hq.elim) (fun k hk=>⟨Nat.le_trans HB0.out.size (HTG.out k hk),hT5 k hk⟩) (fun k hk=>hk.elim) rfl
  have hb6:=(KD.out w5 HB5.out).setCell (p:=⟨bb,x + s * 4 + 3,none⟩) HTB.out.1 (.slice none 0 0)
  have e9:(w5.setCell ⟨bb,x + s * 4 + 3,none⟩ (.slice none 0 0)).cell? ⟨w1.heap.size,3,none⟩ = some (.slice (some ⟨bb,x,none⟩) it.kids.length c):=(World.cell?_setCell_other _ _ _ _ (by intro e;injection e with e;omega)).trans hB5'
  have hi6:zAa zAb (w5.setCell ⟨bb,x + s * 4 + 3,none⟩ (.slice none 0 0)) (fun q=>w.heap.size≤q∧q < w5.heap.size) inner (.slice Ai2 inner.length ci2):=hvc.keep (fun q hq=>World.cell?_setCell_other _ _ _ _ (by intro e;have h1:=hq.gt hl5 HTBb.out;rw [← e] at h1;exact Nat.lt_irrefl _ h1)) (fun q hq=>⟨Nat.le_trans HB0.out.size (HTG.out q hq.mem),hT5 q hq.mem⟩)
  have HZ6:Hid ((w5.setCell ⟨bb,x + s * 4 + 3,none⟩ (.slice none 0 0)).heap.size = w5.heap.size):=by show _ = _;simp [World.setCell]
  have HST:=hid hst
  have HB6':=hid hb6
  have HI6:=hid hi6
  clear hl5 hT5 hN5 hB5' hvi hvc hst hb6 hi6
  go_upto_region 6 with fail
  generalize w5.setCell ⟨bb,x + s * 4 + 3,none⟩ (.slice none 0 0) = W6 at *
  obtain ⟨v6,⟨e0,e1,e2,e3⟩,hok6,hr6⟩:=HST.out
  obtain rfl:v6 = _:=Option.some.inj (e3.symm.trans e9)
  obtain ⟨⟨⟨m0,m1,m2,m3,m4,m5,m6,m7⟩,m8⟩,hb6w⟩:=KBH.out W6 HB6'.out
  obtain ⟨k0,k1,k2,k3⟩:=KN.out W6 hb6w
  have CE:Hid (∀ W,Below W6.heap.size W6 W→Calls Tryz.prog 167 #[.agg #[.int .i64 it.kind,.string it.text,.int .i64 it.cols,.slice (some ⟨bb,x,none⟩) it.kids.length c],.agg #[.int .i64 nd.kind,.string nd.text,.int .i64 nd.cols,.slice A0 nd.kids.length c0]] W (EqC W (eqS it (zAr nd s inner)))):=fun W hW=>by
   rw [← HEQ.out]
   have h9:=hb6w.trans (hW.mono hb6w.size)
   exact zJh (zAr it s []) nd W _ _ (hr6.keep (fun q hq=>hW.cell (by rw [HZ6.out];exact hq.2)) (fun q hq=>by have:=hW.size;rw [HZ6.out] at this;exact Nat.lt_of_lt_of_le hq.2 this)) (zFl HNV.out HSS.out h9)
  have HB7:=hid hb6w
  simp only [Nat.zero_add] at e1 e2
  change W6.cell? ⟨w1.heap.size,0,none⟩ = some (.int .i64 it.kind) at e0
  change W6.cell? ⟨w1.heap.size,1,none⟩ = some (.string it.text) at e1
  change W6.cell? ⟨w1.heap.size,2,none⟩ = some (.int .i64 it.cols) at e2
  clear e3 hr6 hok6 hb6w HST
  cases hbn:((inner.length:Int) != n)
  ·have hR:=HU.out
   rw [hbn,if_neg (by decide)] at hR
   generalize hbe:eqS it (zAr nd s inner) = bE at *
   have HR:=hid hR
   clear hR hbe HU HEQ
   have KF:Hid (∀ W,Below W6.heap.size W6 W→Below W0.heap.size W0 W):=fun W hW=>HB6'.out.trans (hW.mono HB6'.out.size)
   cases bE
   all_goals
    have hR:=HR.out
    simp only [if_true,if_false,Bool.false_eq_true] at hR
    subst hR
    go_wp2_with fail
    go_region_held3 (fun w'=>w'.cell? ⟨w.heap.size,3,none⟩ = some (.int .i64 n)∧w'.cell? ⟨w.heap.size,4,none⟩ = some (.slice (some ⟨g0,o0,none⟩) 1 cn)∧w'.cell? ⟨w1.heap.size,0,none⟩ = some (.int .i64 it.kind)∧w'.cell? ⟨w1.heap.size,1,none⟩ = some (.string it.text)∧w'.cell? ⟨w1.heap.size,2,none⟩ = some (.int .i64 it.cols)∧w'.cell? ⟨w1.heap.size,3,none⟩ = some (.slice (some ⟨bb,x,none⟩) it.kids.length c)∧w'.cell? ⟨g0,o0,none⟩ = some (.int .i64 nd.kind)∧w'.cell? ⟨g0,o0 + 1,none⟩ = some (.string nd.text)∧w'.cell? ⟨g0,o0 + 2,none⟩ = some (.int .i64 nd.cols)∧w'.cell? ⟨g0,o0 + 3,none⟩ = some (.slice A0 nd.kids.length c0)) (go_keep) (first
     | (go_at_call 167;refine (CE.out _ (zC2 (Below.refl _ W6))).mono ?_;rintro e w7 ⟨rfl,hb7⟩;have HB8:=hid (zC7 hb7);clear hb7;obtain ⟨⟨⟨m0,m1,m2,m3,m4,m5,m6,m7⟩,m8⟩,hbw⟩:=KBH.out _ (KF.out w7 HB8.out);obtain ⟨k0,k1,k2,k3⟩:=KN.out _ hbw;have HB9:=hid hbw;clear hbw;have e0:=(HB8.out.cell (p:=⟨w1.heap.size,0,none⟩) (zBd e0)).trans e0;have e1:=(HB8.out.cell (p:=⟨w1.heap.size,1,none⟩) (zBd e1)).trans e1;have e2:=(HB8.out.cell (p:=⟨w1.heap.size,2,none⟩) (zBd e2)).trans e2;have e9:=(HB8.out.cell (p:=⟨w1.heap.size,3,none⟩) (zBd e9)).trans e9))
    go_wp2_with fail
   ·refine bodyPost_ret (v:=.tuple #[.slice none 0 0,.int .i64 7]) (by simp [results,Tryz.results128,go_sem]) rfl ?_
    exact ⟨_,rfl,zAa.nil_ 0 (Nat.zero_le _) none,HB9.out⟩
   ·refine (HJ.out w7 inner Ai2 ci2 HB9.out HIL.out (HI6.out.keep (fun q hq=>HB8.out.cell (by show _ < W6.heap.size;rw [HZ6.out];exact hq.2)) (fun q hq=>.inr ⟨hq.1,by have h9:W6.heap.size≤w7.heap.size:=HB8.out.size;rw [HZ6.out] at h9;exact Nat.lt_of_lt_of_le hq.2 h9⟩))).mono ?_
    rintro e w8 ⟨v8,rfl,hr8,hb8⟩
    have HR8:=hid hr8
    have HB10:=hid hb8
    clear hr8 hb8
    go_wp2_with fail
    refine bodyPost_ret (v:=.tuple #[v8,.int .i64 0]) (by simp [results,Tryz.results128,go_sem]) rfl ?_
    exact ⟨v8,rfl,HR8.out,HB10.out⟩
  ·have hR:=HU.out
   rw [hbn,if_pos rfl] at hR
   subst hR
   clear HU HEQ CE
   go_wp2_with fail
   go_quiet (fail)
   go_wp2_with fail
   refine bodyPost_ret (v:=.tuple #[.slice none 0 0,.int .i64 7]) (by simp [results,Tryz.results128,go_sem]) rfl ?_
   exact ⟨_,rfl,zAa.nil_ 0 (Nat.zero_le _) none,zFn HB7.out⟩
end Go.Proofs.YtbjcioknfjofkaaGreat
