/- Texts put together. -/
import Derived.Test.YtbjcioknfjofkaaGreatQ92e7589dfb
import Derived.Test.YtbjcioknfjofkaaGreatQdeee30aa3e
set_option linter.unusedVariables false
set_option linter.unusedSimpArgs false
set_option maxRecDepth 100000
namespace Go.Proofs.YtbjcioknfjofkaaGreat
open Go.RowKit
theorem zIl {l:List Tree} {i:Nat} (h:i < l.length):zAe l[i]≤zAd l:=by
 have h1:=zDg (t:=rowT l) h
 have h2:zAe (rowT l) = 1 + zAd l:=rfl
 have h3:(rowT l).kids[i] = l[i]:=rfl
 rw [h3] at h1
 omega
theorem zM2 {l:List Tree} {i:Nat} (h:i < l.length):l.getD i zAx = l[i]:=by rw [List.getD_eq_getElem?_getD,List.getElem?_eq_getElem h];rfl
theorem zFy {l:List Tree} {slot:Int} (h:zA9 l slot = true):∃ t s,l = [t]∧slot = (s:Nat)∧∃ h:s < t.kids.length,t.kids[s] = rowT []:=by
 obtain ⟨t,rfl,h1,h2,h3⟩:=zE4 h
 have hv:zAf (rowT [t]) = true:=by
  unfold zA9 at h
  simp only [Bool.and_eq_true,decide_eq_true_eq] at h
  exact h.2.1
 have hf:=(zA0 hv).2.2.1
 have hs:slot.toNat < t.kids.length:=by omega
 refine ⟨t,slot.toNat,rfl,by omega,hs,?_⟩
 have h4:=(zK2 hf (i:=0) (by simp) (k:=slot.toNat) hs).1
 simp only [List.getElem_cons_zero] at h4
 have h5:kidS t slot = t.kids[slot.toNat]:=zBy hs
 rw [h5] at h3
 have h6:t.kids[slot.toNat].kids = []:=List.eq_nil_of_length_eq_zero h3
 rw [h6] at h4
 exact h4
set_option maxHeartbeats 1000000 in
theorem zQm (op:OpD) (l:List Tree) (lr:Nat) (Ar An A:Option Addr) (cr cn cap:Nat) (w:World) (S:Nat→Prop) (hS:∀ q,S q→q < w.heap.size) (hl:zAa zAb w S l (.slice A l.length cap)) (hn:zAa zAb w S op.nodes (.slice An op.nodes.length cn)) (hf:zBp op = true) (hfl:zB0 (rowT l) = true)
  (hcl:zAd l≤50000) (hcn:zAd op.nodes≤50000) (htx:op.text.size≤maxLen) (hr:¬ (op.at_ < 0∨(l.length:Int) < op.at_∨(l.length:Int) - op.at_ < zCv op)) :
  (op.kind = 1∧Calls Tryz.prog 125 #[.agg (chC op (.slice Ar lr cr) (.slice An op.nodes.length cn) (.slice A l.length cap))] w (zCa S w (zAi l op))) ∨
  (op.kind = 2∧Calls Tryz.prog 126 #[.agg (chC op (.slice Ar lr cr) (.slice An op.nodes.length cn) (.slice A l.length cap))] w (zCa S w (zAi l op))) ∨
  (op.kind = 3∧Calls Tryz.prog 127 #[.agg (chC op (.slice Ar lr cr) (.slice An op.nodes.length cn) (.slice A l.length cap))] w (zCa S w (zAi l op))) ∨
  (op.kind = 4∧Calls Tryz.prog 128 #[.agg (chC op (.slice Ar lr cr) (.slice An op.nodes.length cn) (.slice A l.length cap))] w (zCa S w (zAi l op))) ∨
  (op.kind = 5∧Calls Tryz.prog 129 #[.agg (chC op (.slice Ar lr cr) (.slice An op.nodes.length cn) (.slice A l.length cap))] w (zCa S w (zAi l op))):=by
 have hll:l.length≤50000:=by have:=zBf l;omega
 have hln:op.nodes.length≤50000:=by have:=zBf op.nodes;omega
 obtain ⟨a,ha⟩:∃ a:Nat,op.at_ = a:=⟨op.at_.toNat,by omega⟩
 have hk:op.kind = 1∨op.kind = 2∨op.kind = 3∨op.kind = 4∨op.kind = 5:=by
  unfold zBp at hf
  by_cases h1:op.kind = 1∨op.kind = 2
  ·omega
  ·by_cases h2:op.kind = 3∨op.kind = 4
   ·omega
   ·by_cases h3:op.kind = 5
    ·omega
    ·rw [if_neg h1,if_neg h2,if_neg h3] at hf;simp at hf
 rcases hk with hk | hk | hk | hk | hk
 ·refine .inl ⟨hk,?_⟩
  have hnd:zCv op = 0:=by unfold zCv;rw [if_pos hk]
  have e:zAi l op = (zAv l a a op.nodes,0):=by
   unfold zAi;rw [if_neg hr,if_pos hk,ha,Int.toNat_natCast]
  rw [e]
  exact zM7 op l a lr Ar An A cr cn cap w S hS hl hn ha (by omega) (by omega)
 ·refine .inr (.inl ⟨hk,?_⟩)
  have hnd:zCv op = op.nodes.length:=by unfold zCv;rw [if_neg (by omega),if_pos hk]
  have e2:(op.at_ + (op.nodes.length:Int)).toNat = a + op.nodes.length:=by omega
  have e:zAi l op = if zJ4 ((l.take (a + op.nodes.length)).drop a) op.nodes = true then (zAv l a (a + op.nodes.length) [],0) else ([],7):=by
   unfold zAi;rw [if_neg hr,if_neg (by omega),if_pos hk,e2,ha,Int.toNat_natCast]
  rw [e]
  exact zM6 op l a lr Ar An A cr cn cap w S hS hl hn ha (by omega) (by omega)
 ·refine .inr (.inr (.inl ⟨hk,?_⟩))
  have hnd:zCv op = op.n:=by unfold zCv;rw [if_neg (by omega),if_neg (by omega),if_pos hk]
  unfold zBp at hf
  rw [if_neg (by omega),if_pos (by omega)] at hf
  simp only [Bool.and_eq_true,decide_eq_true_eq] at hf
  obtain ⟨t0,s,hnl,hs,hs2,hk0⟩:=zFy hf.2.1
  obtain ⟨b,hb⟩:∃ b:Nat,op.at_ + op.n = b:=⟨(op.at_ + op.n).toNat,by omega⟩
  have e:zAi l op = (zAv l a b [zAr t0 s ((l.take b).drop a)],0):=by
   unfold zAi;rw [if_neg hr,if_neg (by omega),if_neg (by omega),if_pos hk,hb,ha,hs,hnl];simp only [Int.toNat_natCast,List.headD_cons]
  rw [e]
  have hc0:zAe t0≤zAd op.nodes:=by rw [hnl];simp [zAd]
  exact zQl op l a b lr s t0 [] Ar An A cr cn cap w S hS hl hn hnl hs hs2 hk0 (by omega) ha hb (by omega) (by omega) (by omega)
 ·refine .inr (.inr (.inr (.inl ⟨hk,?_⟩)))
  have hnd:zCv op = 1:=by unfold zCv;rw [if_neg (by omega),if_neg (by omega),if_neg (by omega)]
  unfold zBp at hf
  rw [if_neg (by omega),if_pos (by omega)] at hf
  simp only [Bool.and_eq_true,decide_eq_true_eq] at hf
  obtain ⟨nd,s,hnl,hs,hs2,hk0⟩:=zFy hf.2.1
  have hal:a < l.length:=by omega
  have e:zAi l op = zKu l a s op.n l[a] nd:=by
   unfold zAi zKu;rw [if_neg hr,if_neg (by omega),if_neg (by omega),if_neg (by omega),if_pos hk,ha,hs,hnl]
   have e2:((a:Int) + 1).toNat = a + 1:=by omega
   simp only [Int.toNat_natCast,List.headD_cons,zM2 hal,e2,kidS]
   by_cases h1:l[a].kids.length≤s
   ·rw [if_pos (.inl (by omega)),if_pos h1]
   ·rw [if_neg h1]
    by_cases h2:(((l[a].kids.getD s zAx).kids.length:Int) != op.n) = true
    ·rw [if_pos (.inr (.inl (by simpa using h2))),if_pos h2]
    ·rw [if_neg h2]
     by_cases h3:eqS l[a] (zAr nd s (l[a].kids.getD s zAx).kids) = true
     ·rw [if_pos h3,if_neg]
      rintro (h | h | h)
      ·omega
      ·exact h2 (by simpa using h)
      ·rw [h3] at h;cases h
     ·rw [if_neg h3,if_pos (.inr (.inr (by simpa using h3)))]
  rw [e]
  have h1:=zIl hal
  exact zM5 op l a lr s l[a] nd Ar An A cr cn cap w S hS hl hn hnl hs hs2 hk0 ha hal rfl (by have:=(zC1 (t:=rowT l) hfl (i:=a) hal).2;simpa [rowT,Tree.kind,Tree.kids] using this) (by omega) (fun h=>(zK2 hfl hal h).1) (by omega)
 ·refine .inr (.inr (.inr (.inr ⟨hk,?_⟩)))
  have hnd:zCv op = 1:=by unfold zCv;rw [if_neg (by omega),if_neg (by omega),if_neg (by omega)]
  have hal:a < l.length:=by omega
  have e:zAi l op = zOj l a l[a] op.old op.text:=by
   unfold zAi zOj;rw [if_neg hr,if_neg (by omega),if_neg (by omega),if_neg (by omega),if_neg (by omega),ha]
   have e2:((a:Int) + 1).toNat = a + 1:=by omega
   simp only [Int.toNat_natCast,zM2 hal,e2]
  rw [e]
  exact eset_any op l a lr l[a] Ar An A cr cn cap w S hS hl ha hal rfl (by omega) htx
set_option maxHeartbeats 4000000 in
theorem zM8 (op:OpD) (l:List Tree) (lr:Nat) (Ar An A:Option Addr) (cr cn cap:Nat) (w:World) (S:Nat→Prop) (hS:∀ q,S q→q < w.heap.size) (hl:zAa zAb w S l (.slice A l.length cap)) (hn:zAa zAb w S op.nodes (.slice An op.nodes.length cn)) (hf:zBp op = true) (hfl:zB0 (rowT l) = true)
  (hcl:zAd l≤50000) (hcn:zAd op.nodes≤50000) (htx:op.text.size≤maxLen) :
  Calls Tryz.prog 86 #[.agg (chC op (.slice Ar lr cr) (.slice An op.nodes.length cn) (.slice A l.length cap))] w (zCa S w (zAi l op)):=by
 have hll:l.length≤50000:=by have:=zBf l;omega
 obtain ⟨W0,hW0,hz,KB⟩:=zO6 op (.slice Ar lr cr) (.slice An op.nodes.length cn) (.slice A l.length cap) w
 have KBH:=hid KB
 obtain ⟨⟨⟨m0,m1,m2,m3,m4,m5,m6,m7⟩,m8⟩,hB0⟩:=KB W0 (Below.refl _ _)
 have HB0:=hid hB0
 have CN:=hid (zOx op l.length lr Ar An A cr cn cap W0 (by omega))
 have CK:Hid (¬ (op.at_ < 0∨(l.length:Int) < op.at_∨(l.length:Int) - op.at_ < zCv op)→∀ W,Below w.heap.size w W→_):=fun hr W hW=>zQm op l lr Ar An A cr cn cap W S (fun q hq=>Nat.lt_of_lt_of_le (hS q hq) hW.size) (zBg hl hS hW) (zBg hn hS hW) hf hfl hcl hcn htx hr
 have HX:Hid (op.at_ < 0∨(l.length:Int) < op.at_∨(l.length:Int) - op.at_ < zCv op→zAi l op = ([],2)∧zFs l.length op = 2):=fun h=>⟨by unfold zAi;exact if_pos h,by unfold zFs;exact if_pos h⟩
 have HY:Hid (¬ (op.at_ < 0∨(l.length:Int) < op.at_∨(l.length:Int) - op.at_ < zCv op)→zFs l.length op = 0):=fun h=>by unfold zFs;exact if_neg h
 generalize zAi l op = RES at *
 generalize zFs l.length op = EN at *
 by_cases hr:op.at_ < 0∨(l.length:Int) < op.at_∨(l.length:Int) - op.at_ < zCv op
 ·obtain ⟨rfl,rfl⟩:=HX.out hr
  obtain ⟨kind,row,at_,n,nodes,slot,old,text⟩:=op
  simp only [chC] at *
  clear CK HX HY hr hS hl hn hf hfl hcl hcn htx hll KB hB0
  go_enter Tryz.func86,Tryz.ntmps86
  go_wp2_with fail
  refine CN.out.mono ?_
  rintro e w1 ⟨rfl,hb1⟩
  have HB1:=hid (zAq HB0.out hb1)
  clear hb1
  go_wp2_with fail
  refine bodyPost_ret (v:=.tuple #[.slice none 0 0,.int .i64 2]) (by simp [results,Tryz.results86,go_sem]) rfl ?_
  exact nilP HB1.out _
 ·obtain rfl:=HY.out hr
  have CK2:=CK.out hr
  obtain ⟨kind,row,at_,n,nodes,slot,old,text⟩:=op
  simp only [chC] at *
  have HK:=hid CK2
  have hkk:kind = 1∨kind = 2∨kind = 3∨kind = 4∨kind = 5:=by
   rcases CK2 w (Below.refl _ _) with h | h | h | h | h
   ·exact .inl h.1
   ·exact .inr (.inl h.1)
   ·exact .inr (.inr (.inl h.1))
   ·exact .inr (.inr (.inr (.inl h.1)))
   ·exact .inr (.inr (.inr (.inr h.1)))
  clear CK CK2 HX HY hr hS hl hn hf hfl hcl hcn htx hll KB hB0
  rcases hkk with rfl | rfl | rfl | rfl | rfl
  all_goals
   simp only [Int.reduceEq,false_and,true_and,false_or,or_false] at HK
   go_enter Tryz.func86,Tryz.ntmps86
   go_wp2_with fail
   refine CN.out.mono ?_
   rintro e w1 ⟨rfl,hb1⟩
   have HB1:=hid (zAq HB0.out hb1)
   obtain ⟨⟨⟨m0,m1,m2,m3,m4,m5,m6,m7⟩,m8⟩,_⟩:=KBH.out w1 hb1
   clear hb1
   go_wp2_with fail
   refine (HK.out _ HB1.out).mono ?_
   rintro e w2 ⟨v2,rfl,hr2,hb2⟩
   have HR2:=hid hr2
   have HB2:=hid (zAq HB1.out hb2)
   clear hr2 hb2
   go_wp2_with fail
   refine bodyPost_ret (v:=.tuple #[v2,.int .i64 RES.2]) (by simp [results,Tryz.results86,go_sem]) rfl ?_
   exact ⟨v2,rfl,HR2.out.keep (fun _ _=>rfl) (fun q hq=>by
    rcases hq with hq | hq
    ·exact .inl hq
    ·exact .inr ⟨Nat.le_trans HB1.out.size hq.1,hq.2⟩),HB2.out⟩
end Go.Proofs.YtbjcioknfjofkaaGreat
