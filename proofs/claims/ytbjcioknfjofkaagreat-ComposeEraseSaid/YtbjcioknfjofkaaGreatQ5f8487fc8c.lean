/- Texts put together. -/
import Derived.Test.YtbjcioknfjofkaaGreatQ15642f0ed8
import Derived.Test.YtbjcioknfjofkaaGreatQ6da73ac3b1
import Derived.Test.YtbjcioknfjofkaaGreatQ0a2d1212ff
import Derived.Test.YtbjcioknfjofkaaGreatQbd13932ac5
import Derived.Test.YtbjcioknfjofkaaGreatQ738aa96999
import Derived.Test.YtbjcioknfjofkaaGreatQ8c13868fc1
set_option linter.unusedVariables false
set_option linter.unusedSimpArgs false
set_option maxRecDepth 100000
namespace Go.Proofs.YtbjcioknfjofkaaGreat
open Go.RowKit
theorem zIk (ts:List Tree):ts.length≤zAd ts:=by
 induction ts with
 | nil=>simp
 | cons u us ih=>rw [zAd,zA7,List.length_cons];omega
def zMh (w:World) (ts:List Tree) (e:Ending) (w':World):Prop:=∃ v,e = .returned v∧zB5 w' w.heap.size ts v∧Below w.heap.size w w'
set_option maxHeartbeats 1000000 in
theorem zGe (ts : List Tree) (v : Value) (w : World) (hv : zAa zAb w (Lt w.heap.size) ts v) (hc : zAd ts ≤ 1000000) :
    Calls Tryz.prog 106 #[v] w (zMh w ts) := by
  have HV := hid hv
  have HC := hid hc
  obtain ⟨A, cap, rs, rfl, hcap, hmax, hrd, hls⟩ := hv
  have hlen : ts.length ≤ 9223372036854775807 := by unfold maxLen at hmax; omega
  have H : Hid (zBk w (Lt w.heap.size) A rs ∧ zAw zAb w (Lt w.heap.size) ts rs) := ⟨hrd, hls⟩
  clear hrd hls hc hcap hmax
  go_enter Tryz.func106, Tryz.ntmps106
  go_wp2_with fail
  go_loopw [3, 7] (fun r i wr => Below w.heap.size w wr ∧ ∃ k : Nat, k ≤ ts.length ∧ i = .int .i64 k ∧ zB5 wr w.heap.size (ts.take k) r) (fun _ i _ => ts.length - (intOf i).toNat)
  case atStart => exact ⟨Below.refl _ _, 0, Nat.zero_le _, rfl, zB5.nil _ _⟩
  case round =>
    obtain ⟨hb, k, hk, rfl, ho⟩ := hrel
    have HB := hid hb
    have HO := hid ho
    have hz := hb.size
    clear ho hb
    by_cases hlt : k < ts.length
    · obtain ⟨g, o, A', cap', rs', rfl, hg, c0, c1, c2, c3, j0, j1, j2, hc5, hc6, hrd', hls'⟩ := zAy (H.out.1.keep (Same.of_below HB.out (Nat.le_refl _)) (Lt.mono HB.out.size)) (H.out.2.keep (Same.of_below HB.out (Nat.le_refl _)) (Lt.mono HB.out.size)) hlt
      have HOK : Hid (zAu ts[k]) := ⟨j0, j1, j2⟩
      have hv' : zAa zAb wr (Lt wr.heap.size) ts[k].kids (.slice A' ts[k].kids.length cap') := ⟨A', cap', rs', rfl, hc5, hc6, hrd', hls'⟩
      have i5 : decide ((k : Int) < (ts.length : Int)) = true := by rw [decide_eq_true_eq]; omega
      have i6 : (0 : Int) ≤ (k : Int) := by omega
      have i7 : (k : Int) < (ts.length : Int) := by omega
      have HCK : Hid (zAe ts[k] ≤ 1000000 ∧ k ≤ 1000000) := by
        have h1 := zBa hlt
        have h2 := zAo ts (k + 1)
        have h3 := HC.out
        have h4 := zIk ts
        constructor <;> omega
      have HTK : Hid (ts.take (k + 1) = ts.take k ++ [ts[k]]) := List.take_succ_eq_append_getElem hlt
      clear j0 j1 j2 hc5 hc6 hrd' hls'
      go_wp2_with fail
      refine (zDq ts[k] A' cap' wr hv' HOK.out HCK.out.1).mono ?_
      intro e w1 h
      obtain ⟨v1, rfl, hr1, hb1⟩ := h
      have HR1 := hid hr1
      have HB1 := hid hb1
      clear hr1 hb1 hv' c0 c1 c2 c3
      go_wp2_with first
        | (refine app_trees rfl (.tmp 10) (.tmp 16) rfl w.heap.size _ (ts.take k) [ts[k]] rfl ((HO.out.below HB1.out).below (zAl _ _)) _ 1 1 rfl (tree_one HOK.out HR1.out hz (fun q hq => (HO.out.own_lt q hq).2) HB1.out.size _ rfl _) (by have := HCK.out.2; simp; omega) (by have := HB1.out.size; simp; omega) ?_
           intro v' w' ho' hb'
           have HO' := hid ho'
           have HB' := hid hb'
           clear ho' hb')
      go_roundw
      case rel => exact ⟨((HB.out.trans (HB1.out.mono hz)).alloc (HB.out.trans (HB1.out.mono hz)).size _).trans HB'.out, k + 1, by omega, by go_num, by rw [HTK.out]; exact HO'.out⟩
      case measure => simp [intOf]; omega
    · obtain rfl : k = ts.length := by omega
      have i5 : decide ((ts.length : Int) < (ts.length : Int)) = false := by rw [decide_eq_false_iff_not]; omega
      go_wp2_with fail
      go_ret
      exact ⟨_, rfl, by have h := HO.out; rw [List.take_of_length_le (Nat.le_refl _)] at h; exact h, HB.out⟩
def Pt (W:World) (g o b:Nat):Prop:=∃ x n c,0 < n∧W.cell? ⟨g,o,none⟩ = some (.slice (some ⟨b,x,none⟩) n c)
structure zDc (W:World) (T:Nat→Prop):Prop where
 inj:∀ {g o g' o' b},T g→T g'→T b→Pt W g o b→Pt W g' o' b→g = g'∧o = o'
 mono:∀ {g o b},T g→T b→Pt W g o b→g < b
inductive zE9 (W:World) (T:Nat→Prop) (g o:Nat):Nat→Prop
 | one {b:Nat}:Pt W g o b→T b→zE9 W T g o b
 | snoc {y o' b:Nat}:zE9 W T g o y→Pt W y o' b→T b→zE9 W T g o b
section
variable {W W':World} {T T':Nat→Prop}
theorem zDc.keep (h:zDc W T) (hk:∀ q:Addr,T q.block→W'.cell? q = W.cell? q):zDc W' T:=by
 have hp:∀ {g o b},T g→Pt W' g o b→Pt W g o b:=fun {g o b} hg ⟨x,n,c,h0,h1⟩=>⟨x,n,c,h0,(hk ⟨g,o,none⟩ hg).symm.trans h1⟩
 exact ⟨fun hg hg' hb h1 h2=>h.inj hg hg' hb (hp hg h1) (hp hg' h2),fun hg hb h1=>h.mono hg hb (hp hg h1)⟩
theorem zDc.sub (h:zDc W T) (hs:∀ k,T' k→T k):zDc W T':=⟨fun hg hg' hb h1 h2=>h.inj (hs _ hg) (hs _ hg') (hs _ hb) h1 h2,fun hg hb h1=>h.mono (hs _ hg) (hs _ hb) h1⟩
theorem zE9.mem {g o b:Nat} (h:zE9 W T g o b):T b:=by cases h <;> assumption
theorem zE9.gt (hL:zDc W T) {g o b:Nat} (hg:T g) (h:zE9 W T g o b):g < b:=by
 induction h with
 | one h1 h2=>exact hL.mono hg h2 h1
 | snoc h1 h2 h3 ih=>exact Nat.lt_trans ih (hL.mono h1.mem h3 h2)
theorem zE9.cons {g o b o' x:Nat} (hp:Pt W g o b) (hb:T b) (h:zE9 W T b o' x):zE9 W T g o x:=by
 induction h with
 | one h1 h2=>exact .snoc (.one hp hb) h1 h2
 | snoc h1 h2 h3 ih=>exact .snoc ih h2 h3
theorem zE9.sep (hL : zDc W T) {g o1 o2 x : Nat} (hg : T g) (h1 : zE9 W T g o1 x) (h2 : zE9 W T g o2 x) : o1 = o2 := by
  induction h1 with
  | one a1 a2 =>
    cases h2 with
    | one b1 b2 => exact (hL.inj hg hg a2 a1 b1).2
    | snoc b1 b2 b3 =>
      have h := (hL.inj hg b1.mem a2 a1 b2).1
      have h3 := b1.gt hL hg
      omega
  | snoc a1 a2 a3 ih =>
    cases h2 with
    | one b1 b2 =>
      have h := (hL.inj hg a1.mem a3 b1 a2).1
      have h3 := a1.gt hL hg
      omega
    | snoc b1 b2 b3 =>
      have h := (hL.inj a1.mem b1.mem a3 a2 b2).1
      subst h
      exact ih b1
mutual
theorem tR_chain : (t : Tree) → ∀ (cs : List Value) (g o : Nat), zDi W T t cs → (∀ j u, cs[j]? = some u → W.cell? ⟨g, o + j, none⟩ = some u) → zDi W (zE9 W T g (o + 3)) t cs
  | .mk k s c ts, cs, g, o, h, hc => by
    unfold zDi at h ⊢
    obtain ⟨A, cap, rs, h1, h2, h3, h4, h5, h6, h7, h8⟩ := h
    have hl := (zDd.1 h8).len
    by_cases h0 : 0 < rs.length
    · obtain ⟨g1, o1, rfl, hT, hc1⟩ := h7 h0
      have hcell := hc 3 (.slice (some ⟨g1, o1, none⟩) ts.length cap) (by rw [h1]; rfl)
      have hts : 0 < ts.length := by
        rcases ts with _ | ⟨t, ts⟩
        · rw [List.length_nil, Nat.zero_mul] at hl; omega
        · simp
      have hpt : Pt W g (o + 3) g1 := ⟨_, _, _, hts, hcell⟩
      exact ⟨_, cap, rs, h1, h2, h3, h4, h5, h6, fun _ => ⟨g1, o1, rfl, .one hpt hT, hc1⟩, zHn ts rs g1 o1 _ h8 hc1 (fun x o' hx => hx.cons hpt hT)⟩
    · have hz : ts = [] := by
        rcases ts with _ | ⟨t, ts⟩
        · rfl
        · have hp := zAb.pos
          rw [List.length_cons, Nat.add_mul] at hl
          omega
      subst hz
      unfold zCn at h8
      subst h8
      exact ⟨A, cap, [], h1, h2, h3, h4, h5, h6, zBk.nil_, by unfold zCn; rfl⟩
theorem zHn : (ts : List Tree) → ∀ (cs : List Value) (g o : Nat) (Q : Nat → Prop), zCn W T ts cs → (∀ j u, cs[j]? = some u → W.cell? ⟨g, o + j, none⟩ = some u) → (∀ x o', zE9 W T g o' x → Q x) → zCn W Q ts cs
  | [], cs, g, o, Q, h, hc, hQ => by unfold zCn at h ⊢; exact h
  | t :: ts, cs, g, o, Q, h, hc, hQ => by
    unfold zCn at h ⊢
    obtain ⟨a, r, rfl, h2, h3⟩ := h
    refine ⟨a, r, rfl, zDi.keep (fun _ _ => rfl) (fun x hx => hQ x _ hx) t a (tR_chain t a g o h2 (fun j u hu => hc j u ?_)), zHn ts r g (o + a.length) Q h3 (fun j u hu => ?_) hQ⟩
    · rw [List.getElem?_append_left (List.getElem?_eq_some_iff.1 hu).1]; exact hu
    · rw [Nat.add_assoc]
      refine hc _ u ?_
      rw [List.getElem?_append_right (by omega), Nat.add_sub_cancel_left]; exact hu
end
theorem zFq {ts:List Tree} {v:Value} {g o:Nat} (h:zAa zAb W T ts v) (hc:W.cell? ⟨g,o,none⟩ = some v):zAa zAb W (zE9 W T g o) ts v:=by
 obtain ⟨A,cap,rs,rfl,h1,h2,h3,h4⟩:=h
 have hl:=h4.len
 by_cases h0:0 < rs.length
 ·obtain ⟨g1,o1,rfl,hT,hc1⟩:=h3 h0
  have hts:0 < ts.length:=by
   rcases ts with _ | ⟨t,ts⟩
   ·rw [List.length_nil,Nat.zero_mul] at hl;omega
   ·simp
  have hpt:Pt W g o g1:=⟨_,_,_,hts,hc⟩
  exact ⟨_,cap,rs,rfl,h1,h2,fun _=>⟨g1,o1,rfl,.one hpt hT,hc1⟩,zDd.1 (zHn ts rs g1 o1 _ (zDd.2 h4) hc1 (fun x o' hx=>hx.cons hpt hT))⟩
 ·have hz:ts = []:=by
   rcases ts with _ | ⟨t,ts⟩
   ·rfl
   ·have hp:=zAb.pos
    rw [List.length_cons,Nat.add_mul] at hl
    omega
  subst hz
  exact ⟨A,cap,[],rfl,h1,h2,zBk.nil_,rfl⟩
def zC3 (W:World) (T:Nat→Prop) (g o:Nat) (t:Tree):Prop:=∃ v,zDb W g o t v∧zAu t∧zAa zAb W T t.kids v
def zI0:Tree→List Nat→Tree→Tree
 | t,[],n=>n
 | t,i :: p,n=>.mk t.kind t.text t.cols (t.kids.set i (zI0 (t.kids.getD i (.mk 0 ⟨#[]⟩ 0 [])) p n))
inductive Loc (W:World) (T:Nat→Prop):Nat→Nat→Tree→List Nat→Nat→Nat→Prop
 | here (g o:Nat) (t:Tree):Loc W T g o t [] g o
 | step (g o:Nat) (t:Tree) (i:Nat) (p:List Nat) (b x c:Nat) (hi:i < t.kids.length) (g' o':Nat):W.cell? ⟨g,o + 3,none⟩ = some (.slice (some ⟨b,x,none⟩) t.kids.length c)→T b→Loc W T b (x + i * 4) t.kids[i] p g' o'→Loc W T g o t (i :: p) g' o'
theorem Loc.where_ {g o g' o' : Nat} {t : Tree} {p : List Nat} (h : Loc W T g o t p g' o') : (p = [] ∧ g' = g ∧ o' = o) ∨ zE9 W T g (o + 3) g' := by
  induction h with
  | here g o t => exact .inl ⟨rfl, rfl, rfl⟩
  | step g o t i p b x c hi g' o' h1 h2 h3 ih =>
    right
    have hpt : Pt W g (o + 3) b := ⟨_, _, _, Nat.lt_of_le_of_lt (Nat.zero_le _) hi, h1⟩
    rcases ih with ⟨_, rfl, rfl⟩ | h
    · exact .one hpt h2
    · exact h.cons hpt h2
theorem zJj {g o b x c:Nat} {t:Tree} (h:zC3 W T g o t) (hc:W.cell? ⟨g,o + 3,none⟩ = some (.slice (some ⟨b,x,none⟩) t.kids.length c)) {i:Nat} (hi:i < t.kids.length):zC3 W T b (x + i * 4) t.kids[i]:=by
 obtain ⟨v,hn,_,hv⟩:=h
 have e:v = .slice (some ⟨b,x,none⟩) t.kids.length c:=Option.some.inj (hn.2.2.2.symm.trans hc)
 subst e
 obtain ⟨A,cap,rs,e,h1,h2,h3,h4⟩:=hv
 cases e
 obtain ⟨g1,o1,A',cap',rs',e,hg,t0,t1,t2,t3,b1,b2,b3,b4,b5,b6,b7⟩:=zAy h3 h4 hi
 cases e
 exact ⟨_,⟨t0,t1,t2,t3⟩,⟨b1,b2,b3⟩,_,_,rs',rfl,b4,b5,b6,b7⟩
theorem zK3 (hL : zDc W T) {g' o' : Nat} (n : Tree) (hk : ∀ q : Addr, T q.block → (q.block = g' → q.off < o' ∨ o' + 4 ≤ q.off) → W'.cell? q = W.cell? q) (hT : ∀ k, T k → T' k) (hn : zC3 W' T' g' o' n) {g o : Nat} {t : Tree} {p : List Nat} (h : Loc W T g o t p g' o') (hg : T g ∨ ¬ T g ∧ ∀ j, j < 4 → W'.cell? ⟨g, o + j, none⟩ = W.cell? ⟨g, o + j, none⟩) (ht : zC3 W T g o t) : zC3 W' T' g o (zI0 t p n) := by
  induction h with
  | here g o t => rw [zI0]; exact hn
  | step g o t i p b x c hi g' o' h1 h2 h3 ih =>
    have hpt : Pt W g (o + 3) b := ⟨_, _, _, Nat.lt_of_le_of_lt (Nat.zero_le _) hi, h1⟩
    have hkid := ih hk hn (.inl h2) (zJj ht h1 hi)
    obtain ⟨v, hnc, hok, hv⟩ := ht
    have e : v = .slice (some ⟨b, x, none⟩) t.kids.length c := Option.some.inj (hnc.2.2.2.symm.trans h1)
    subst e
    have hwh := h3.where_
    have hroot : zDb W' g o t (.slice (some ⟨b, x, none⟩) t.kids.length c) := by
      rcases hg with hg | ⟨_, hg⟩
      · have hgt : g < g' := by
          have hb := hL.mono hg h2 hpt
          rcases hwh with ⟨_, e, _⟩ | hch
          · omega
          · have := hch.gt hL h2; omega
        exact hnc.keep (fun j hj => hk ⟨g, o + j, none⟩ hg (fun e => by simp only at e; omega))
      · exact hnc.keep hg
    have hothers : ∀ (j : Nat) (hj : j < t.kids.length), j ≠ i → zC3 W' T' b (x + j * 4) t.kids[j] := by
      intro j hj hne
      obtain ⟨u, hu1, hu2, hu3⟩ := zJj ⟨_, hnc, hok, hv⟩ h1 hj
      refine ⟨u, hu1.keep (fun k hk4 => hk ⟨b, x + j * 4 + k, none⟩ h2 (fun e => ?_)), hu2, (zFq hu3 hu1.2.2.2).keep (fun q hq => hk q hq.mem (fun e => ?_)) (fun k hk => hT _ hk.mem)⟩
      · simp only at e ⊢
        rcases hwh with ⟨_, _, e2⟩ | hch
        · omega
        · have := hch.gt hL h2; omega
      · exfalso
        rcases hwh with ⟨_, e2, _⟩ | hch
        · have := hq.gt hL h2; omega
        · rw [e] at hq
          have := hch.sep hL h2 hq
          omega
    have hget : t.kids.getD i (.mk 0 ⟨#[]⟩ 0 []) = t.kids[i] := by rw [List.getD_eq_getElem?_getD, List.getElem?_eq_getElem hi]; rfl
    rw [zI0, hget]
    obtain ⟨A, cap, rs, e, k1, k2, k3, k4⟩ := hv
    cases e
    obtain ⟨cs, hl, hc⟩ := zKk (W := W') (S := T') (g := b) (hT _ h2) (t.kids.set i (zI0 t.kids[i] p n)) x (fun j hj => by
      rw [List.length_set] at hj
      by_cases hji : j = i
      · subst hji
        rw [List.getElem_set_self]
        exact hkid
      · rw [List.getElem_set_ne (Ne.symm hji)]
        exact hothers j hj hji)
    refine ⟨.slice (some ⟨b, x, none⟩) t.kids.length c, hroot, hok, some ⟨b, x, none⟩, c, cs, ?_, ?_, k2, fun _ => ⟨b, x, rfl, hT _ h2, hc⟩, hl⟩
    · simp only [Tree.kids, List.length_set]
    · simp only [Tree.kids, List.length_set]; exact k1
end
def rowS : Tree → List Int → Option Tree
  | t, i :: k :: p =>
    if hi : 0 ≤ i ∧ i.toNat < t.kids.length then
      if hk : 0 ≤ k ∧ k.toNat < (t.kids[i.toNat]'hi.2).kids.length then rowS ((t.kids[i.toNat]'hi.2).kids[k.toNat]'hk.2) p else none
    else none
  | t, [] => some t
  | _, [_] => none
def FindP (w:World) (r:Option Tree) (e:Ending) (w':World):Prop :=
 (∃ n,w' = w.drewN n)∧((r = none∧∃ q,e = .returned (.tuple #[.pointer q,.bool false]))∨∃ t' g o A cap rs,r = some t'∧e = .returned (.tuple #[.pointer (some ⟨g,o,none⟩),.bool true])∧zEu w (Lt w.heap.size) g o t' A cap rs)
set_option maxHeartbeats 2000000 in
theorem zG0 (t : Tree) (p : List Int) (g0 o0 : Nat) (A : Option Addr) (cap : Nat) (rs : List Value) (b : Value) (w : World) (hn0 : zEu w (Lt w.heap.size) g0 o0 t A cap rs) (hp : zAh w (Lt w.heap.size) p b) :
    Calls Tryz.prog 104 #[.pointer (some ⟨g0, o0, none⟩), b] w (FindP w (rowS t p)) := by
  have HN := hid hn0
  have HP := hid hp
  obtain ⟨A', cap', rfl⟩ := hp.form
  clear hn0 hp
  go_enter Tryz.func104, Tryz.ntmps104
  go_wp2_with fail
  go_loopw [1, 0] (fun c r wr => (∃ n, wr = w.drewN n) ∧ ∃ (p' : List Int) (t' : Tree) (g o : Nat) (A1 : Option Addr) (cap1 : Nat) (rs : List Value), r = .pointer (some ⟨g, o, none⟩) ∧ zAh w (Lt w.heap.size) p' c ∧ zEu w (Lt w.heap.size) g o t' A1 cap1 rs ∧ rowS t' p' = rowS t p)
    (fun c _ _ => match c with | .slice _ n _ => n | _ => 0)
  case atStart => exact ⟨⟨0, rfl⟩, p, t, g0, o0, A, cap, rs, rfl, HP.out, HN.out, rfl⟩
  case round =>
    obtain ⟨⟨n, rfl⟩, p', t', g, o, A1, cap1, rs, rfl, hp', hn, hrest⟩ := hrel
    have HR := hid hrest
    have HP' := hid hp'
    have HNN := hid hn
    obtain ⟨⟨c0, c1, c2, c3⟩, hg, htx, h4, h5, h6, h7⟩ := hn
    obtain ⟨A2, cap2, ws, rfl, h8, h9, h10, h11⟩ := hp'
    have hl1 : p'.length ≤ 9223372036854775807 := by unfold maxLen at h9; omega
    have hl2 : t'.kids.length ≤ 9223372036854775807 := by unfold maxLen at h5; omega
    have hgl : g < w.heap.size := hg
    clear hrest HN HP
    match p', hl1, HR, HP', h8, h10, h11 with
    | [], hl1, HR, HP', h8, h10, h11 =>
      have HF : Hid (rowS t p = some t') := by show _ = _; rw [← HR.out]; simp [rowS]
      clear h10 h11 h6 h7
      go_wp2_with fail
      refine bodyPost_ret (v := .tuple #[.pointer (some ⟨g, o, none⟩), .bool true]) (by simp [results, Tryz.results104, go_sem]) rfl ?_
      exact ⟨by first | exact ⟨_, rfl⟩ | (simp only [World.drewN_drewN]; exact ⟨_, rfl⟩), .inr ⟨_, _, _, _, _, _, HF.out, rfl, HNN.out⟩⟩
    | [i], hl1, HR, HP', h8, h10, h11 =>
      have HF : Hid (rowS t p = none) := by show _ = _; rw [← HR.out]; simp [rowS]
      clear h10 h11 h6 h7
      go_wp2_with fail
      refine bodyPost_ret (v := .tuple #[.pointer (some ⟨g, o, none⟩), .bool false]) (by simp [results, Tryz.results104, go_sem]) rfl ?_
      exact ⟨by first | exact ⟨_, rfl⟩ | (simp only [World.drewN_drewN]; exact ⟨_, rfl⟩), .inl ⟨HF.out, _, rfl⟩⟩
    | i :: k :: q, hl1, HR, HP', h8, h10, h11 =>
      obtain ⟨g', o', rfl, hg', hi, a0⟩ := zB2 h10 h11 (k := 0) (by simp)
      obtain ⟨g2, o2, hq, hg2, hk, a1⟩ := zB2 h10 h11 (k := 1) (by simp)
      cases hq
      simp only [List.getElem_cons_zero, List.getElem_cons_succ, Nat.add_zero] at a0 a1 hi hk
      obtain ⟨A3, hsl, hcut⟩ := zNc intE Tryz.underlying31 zCm (some ⟨g', o', none⟩) (i :: k :: q).length cap2 2 2 rfl (by simp)
      have HCU := hid (hcut _ _ _ HP'.out)
      simp only [List.drop_succ_cons, List.drop_zero] at HCU
      have i3 : (2 : Int) ≤ ((i :: k :: q).length : Int) := by simp; omega
      have hlen2 : (i :: k :: q).length - 2 = q.length := by simp
      have hpq : Hid (q.length < (i :: k :: q).length) := by show _ < _; simp; omega
      rw [hlen2] at hsl HCU
      have m0 : (0 : Int) < ((i :: k :: q).length : Int) := by simp; omega
      have m2 : 0 < (i :: k :: q).length := by simp
      have m1 : 1 < (i :: k :: q).length := by simp
      have m3 : (1 : Int) < ((i :: k :: q).length : Int) := by simp; omega
      clear hcut hlen2 h10 h11
      generalize (i :: k :: q).length = m at *
      have HX : Hid (rowS t p = rowS t' (i :: k :: q)) := HR.out.symm
      have HPS := hid (show rowS t' (i :: k :: q) = _ by rw [rowS])
      clear HR
      by_cases hx : 0 ≤ i ∧ i.toNat < t'.kids.length
      · obtain ⟨hx1, hx2⟩ := hx
        obtain ⟨i', rfl⟩ : ∃ i' : Nat, i = i' := ⟨i.toNat, by omega⟩
        simp only [Int.toNat_natCast] at hx2
        obtain ⟨gk, ok, B1, b1, bs1, rfl, hg1, t0, t1, t2, t3, _, _, hts, hc5, hc6, hrd, hls⟩ := zAy h6 h7 hx2
        have j0 : decide ((i' : Int) < 0) = false := by simp
        have j1 : ¬ (i' : Int) < 0 := by omega
        have j2 : decide ((t'.kids.length : Int) ≤ i') = false := by simp; omega
        have j3 : (i' : Int) < (t'.kids.length : Int) := by omega
        have hg1l : gk < w.heap.size := hg1
        have hl3 : t'.kids[i'].kids.length ≤ 9223372036854775807 := by unfold maxLen at hc6; omega
        by_cases hy : 0 ≤ k ∧ k.toNat < t'.kids[i'].kids.length
        · obtain ⟨hy1, hy2⟩ := hy
          obtain ⟨k', rfl⟩ : ∃ k' : Nat, k = k' := ⟨k.toNat, by omega⟩
          simp only [Int.toNat_natCast] at hy2
          obtain ⟨gl, ol, B2, b2, bs2, rfl, hg2', s0, s1, s2, s3, _, _, hts2, hd5, hd6, hrd2, hls2⟩ := zAy hrd hls hy2
          have j4 : decide ((k' : Int) < 0) = false := by simp
          have j5 : ¬ (k' : Int) < 0 := by omega
          have j6 : decide ((t'.kids[i'].kids.length : Int) ≤ k') = false := by simp; omega
          have j7 : (k' : Int) < (t'.kids[i'].kids.length : Int) := by omega
          have HF : Hid (rowS t'.kids[i'].kids[k'] q = rowS t p) := by
            show _ = _
            rw [HX.out, rowS, dif_pos ⟨by omega, by simpa using hx2⟩, dif_pos ⟨by omega, by simpa using hy2⟩]; rfl
          have HN2 : Hid (zEu w (Lt w.heap.size) gl (ol + k' * 4) t'.kids[i'].kids[k'] B2 b2 bs2) := ⟨⟨s0, s1, s2, s3⟩, hg2', hts2, hd5, hd6, hrd2, hls2⟩
          clear hrd hls hrd2 hls2 h6 h7 HX HPS hd5 hd6 hc5 hc6
          go_wp2_with fail
          go_quiet (fail)
          go_wp2_with fail
          go_roundw
          case rel => exact ⟨by first | exact ⟨_, rfl⟩ | (simp only [World.drewN_drewN]; exact ⟨_, rfl⟩), q, _, _, _, _, _, _, rfl, HCU.out, HN2.out, HF.out⟩
          case measure => exact hpq.out
        · have HF : Hid (rowS t p = none) := by
            show _ = _
            rw [HX.out, rowS, dif_pos ⟨by omega, by simpa using hx2⟩, dif_neg (by simpa using hy)]
          have i2 : k < 0 ∨ (0 ≤ k ∧ (t'.kids[i'].kids.length : Int) ≤ k) := by omega
          clear hrd hls h6 h7 HX HPS hc5 hc6 hy
          rcases i2 with i2 | ⟨i2, i3⟩
          · have j4 : decide (k < 0) = true := decide_eq_true i2
            go_wp2_with fail
            go_quiet (fail)
            go_wp2_with fail
            refine bodyPost_ret (v := .tuple #[.pointer none, .bool false]) (by simp [results, Tryz.results104, go_sem]) rfl ?_
            exact ⟨by first | exact ⟨_, rfl⟩ | (simp only [World.drewN_drewN]; exact ⟨_, rfl⟩), .inl ⟨HF.out, _, rfl⟩⟩
          · have j4 : decide (k < 0) = false := by simp; omega
            have j5 : decide ((t'.kids[i'].kids.length : Int) ≤ k) = true := decide_eq_true i3
            go_wp2_with fail
            go_quiet (fail)
            go_wp2_with fail
            refine bodyPost_ret (v := .tuple #[.pointer none, .bool false]) (by simp [results, Tryz.results104, go_sem]) rfl ?_
            exact ⟨by first | exact ⟨_, rfl⟩ | (simp only [World.drewN_drewN]; exact ⟨_, rfl⟩), .inl ⟨HF.out, _, rfl⟩⟩
      · have HF : Hid (rowS t p = none) := by show _ = _; rw [HX.out, rowS, dif_neg hx]
        have i2 : i < 0 ∨ (0 ≤ i ∧ (t'.kids.length : Int) ≤ i) := by omega
        clear h6 h7 HX HPS hx
        rcases i2 with i2 | ⟨i2, i3⟩
        · have j4 : decide (i < 0) = true := decide_eq_true i2
          go_wp2_with fail
          go_quiet (fail)
          go_wp2_with fail
          refine bodyPost_ret (v := .tuple #[.pointer none, .bool false]) (by simp [results, Tryz.results104, go_sem]) rfl ?_
          exact ⟨by first | exact ⟨_, rfl⟩ | (simp only [World.drewN_drewN]; exact ⟨_, rfl⟩), .inl ⟨HF.out, _, rfl⟩⟩
        · have j4 : decide (i < 0) = false := by simp; omega
          have j5 : decide ((t'.kids.length : Int) ≤ i) = true := decide_eq_true i3
          go_wp2_with fail
          go_quiet (fail)
          go_wp2_with fail
          refine bodyPost_ret (v := .tuple #[.pointer none, .bool false]) (by simp [results, Tryz.results104, go_sem]) rfl ?_
          exact ⟨by first | exact ⟨_, rfl⟩ | (simp only [World.drewN_drewN]; exact ⟨_, rfl⟩), .inl ⟨HF.out, _, rfl⟩⟩
theorem zEw : (t : Tree) → (p : List Int) → rowS t p = if (zAm t p).2 = true then some (zAm t p).1 else none
  | t, [] => by simp [rowS, zAm]
  | t, [_] => by simp [rowS, zAm]
  | t, i :: k :: p => by
    rw [rowS, zAm]
    split
    · split
      · exact zEw _ p
      · simp
    · simp
theorem zJb : (p : List Int) → (t : Tree) → (l : List Tree) → (zAm t p).2 = true → putS t p l = zI0 t (p.map Int.toNat) (rowT l)
  | [], t, l, _ => rfl
  | [_], t, l, h => by simp [zAm] at h
  | i :: k :: p, t, l, h => by
    obtain ⟨hi, hk, he⟩ := zCs t i k p h
    rw [he] at h
    rw [putS, zJb p _ l h]
    rfl
theorem zBy {t:Tree} {i:Int} (h:i.toNat < t.kids.length):kidS t i = t.kids[i.toNat]:=by
 unfold kidS;rw [List.getD_eq_getElem?_getD,List.getElem?_eq_getElem h];rfl
theorem zJo (k : Int) : (ts : List Tree) → (i : Nat) → (h : i < ts.length) → zCr k ts = true → zB0 ts[i] = true ∧ ((ts[i].kind == 1) = !(k == 1))
  | t :: ts, 0, _, h => by
    rw [zBz] at h
    simp only [Bool.and_eq_true] at h
    refine ⟨h.1.2, ?_⟩
    have := h.1.1
    revert this
    simp only [List.getElem_cons_zero]
    cases (t.kind == 1) <;> cases (k == 1) <;> simp
  | t :: ts, i + 1, hi, h => by
    rw [zBz] at h
    simp only [Bool.and_eq_true] at h
    exact zJo k ts i (by simpa using hi) h.2
theorem zC1 {t:Tree} (h:zB0 t = true) {i:Nat} (hi:i < t.kids.length):zB0 t.kids[i] = true∧((t.kids[i].kind == 1) = !(t.kind == 1)):=by
 obtain ⟨k,s,c,ts⟩:=t
 rw [zB0] at h
 simp only [Bool.and_eq_true] at h
 exact zJo k ts i hi h.2
theorem zDg {t:Tree} {i:Nat} (hi:i < t.kids.length):zAe t.kids[i] + 1≤zAe t:=by
 have h1:=zBa hi
 have h2:=zAo t.kids (i + 1)
 have h4:zAe t = 1 + zAd t.kids:=by cases t;rfl
 omega
theorem zIh : (ts : List Tree) → (i : Nat) → (hi : i < ts.length) → zBc ts[i] ≤ zBb ts
  | t :: ts, 0, _ => by simp only [List.getElem_cons_zero, zBb]; omega
  | t :: ts, i + 1, h => by
    have := zIh ts i (by simpa using h)
    simp only [List.getElem_cons_succ, zBb]; omega
theorem zFe {t:Tree} {i:Nat} (hi:i < t.kids.length):zBc t.kids[i] + 1≤zBc t:=by
 have h1:=zIh t.kids i hi
 have h4:zBc t = zBb t.kids + 1:=by cases t;rfl
 omega
theorem zPy : (p : List Int) → (t : Tree) → (l : List Tree) → (zAm t p).2 = true → zB0 (putS t p l) = true → zB0 (rowT l) = true ∧ zAe (rowT l) ≤ zAe (putS t p l) ∧ zBc (rowT l) ≤ zBc (putS t p l)
  | [], t, l, _, h => ⟨h, Nat.le_refl _, Nat.le_refl _⟩
  | [_], t, l, h, _ => by simp [zAm] at h
  | i :: k :: p, t, l, h, hf => by
    obtain ⟨hi, hk, he⟩ := zCs t i k p h
    rw [he] at h
    have e1 : putS t (i :: k :: p) l = zCj t i.toNat (zCj (kidS t i) k.toNat (putS (kidS (kidS t i) k) p l)) := by rw [putS]
    rw [e1] at hf ⊢
    have hi1 : i.toNat < (zCj t i.toNat (zCj (kidS t i) k.toNat (putS (kidS (kidS t i) k) p l))).kids.length := by rw [zK7]; exact hi.2
    have hk1 : k.toNat < (zCj (kidS t i) k.toNat (putS (kidS (kidS t i) k) p l)).kids.length := by rw [zK7]; exact hk.2
    have g1 : (zCj t i.toNat (zCj (kidS t i) k.toNat (putS (kidS (kidS t i) k) p l))).kids[i.toNat] = zCj (kidS t i) k.toNat (putS (kidS (kidS t i) k) p l) := by
      rw [← zBy hi1, zI7 hi.2]
    have g2 : (zCj (kidS t i) k.toNat (putS (kidS (kidS t i) k) p l)).kids[k.toNat] = putS (kidS (kidS t i) k) p l := by
      rw [← zBy hk1, zI7 hk.2]
    have f1 := (zC1 hf hi1).1
    have c1 := zDg hi1
    have d1 := zFe hi1
    rw [g1] at f1 c1 d1
    have f2 := (zC1 f1 hk1).1
    have c2 := zDg hk1
    have d2 := zFe hk1
    rw [g2] at f2 c2 d2
    obtain ⟨a, b, c⟩ := zPy p _ l h f2
    exact ⟨a, by omega, by omega⟩
theorem zPw {t:Tree} {p:List Int} {l:List Tree} (hf:(zAm t p).2 = true) (h:zAf (putS t p l) = true):zAf (rowT l) = true:=by
 unfold zAf at h ⊢
 simp only [Bool.and_eq_true,decide_eq_true_eq] at h ⊢
 obtain ⟨a,b,c⟩:=zPy p t l hf h.1.1.2
 exact ⟨⟨⟨rfl,a⟩,by omega⟩,by omega⟩
theorem zNv {t:Tree} (h:zB0 t = true) (hk:t.kind = 1):t = rowT t.kids:=by
 obtain ⟨k,s,c,ts⟩:=t
 simp only [Tree.kind] at hk
 subst hk
 rw [zB0] at h
 simp only [Bool.and_eq_true] at h
 have h1:=h.1.1
 have h2:=h.1.2
 simp only [rowT,Tree.kids,Tree.mk.injEq,true_and,and_true]
 refine ⟨?_,?_⟩
 ·simp [zCh] at h1;exact zI4.1 (by simpa using h1)
 ·simp [zA5] at h2;omega
theorem zEp : (p : List Int) → (t : Tree) → (zAm t p).2 = true → zB0 t = true → t.kind = 1 → zB0 (zAm t p).1 = true ∧ (zAm t p).1.kind = 1
  | [], t, _, h, hk => ⟨h, hk⟩
  | [_], t, h, _, _ => by simp [zAm] at h
  | i :: k :: p, t, h, hf, hk => by
    obtain ⟨hi, hk', he⟩ := zCs t i k p h
    rw [he] at h ⊢
    have f1 := zC1 hf hi.2
    rw [← zBy hi.2, hk] at f1
    have f2 := zC1 f1.1 hk'.2
    rw [← zBy hk'.2, f1.2] at f2
    exact zEp p _ h f2.1 (by have := f2.2; simpa using this)
theorem zGd {t:Tree} {p:List Int} (hv:zAf t = true) (h:(zAm t p).2 = true):(zAm t p).1 = rowT (zAm t p).1.kids:=by
 have hv2:=zA0 hv
 obtain ⟨h1,h2⟩:=zEp p t h hv2.2.2.1 hv2.2.1
 exact zNv h1 h2
theorem zLv (t:Tree) (i:Nat) (l:List Tree):zI0 t [i] (rowT l) = zAr t i l:=rfl
theorem zOf {it nd : Tree} {i : Nat} {inner : List Tree} (hi : i < it.kids.length) (h1 : it.kids[i] = rowT inner) (hj : i < nd.kids.length) (h2 : nd.kids[i] = rowT []) : eqS (zI0 it [i] (rowT [])) nd = eqS it (zAr nd i inner) := by
  have key : zI0 it [i] (rowT []) = nd ↔ it = zAr nd i inner := by
    rw [zLv]
    obtain ⟨k, s, c, ts⟩ := it
    obtain ⟨k', s', c', us⟩ := nd
    simp only [Tree.kids] at hi h1 hj h2
    simp only [zAr, zCj, Tree.kind, Tree.text, Tree.cols, Tree.kids, Tree.mk.injEq]
    constructor
    · rintro ⟨rfl, rfl, rfl, rfl⟩
      refine ⟨rfl, rfl, rfl, ?_⟩
      rw [List.set_set, ← h1, List.set_getElem_self]
    · rintro ⟨rfl, rfl, rfl, rfl⟩
      refine ⟨rfl, rfl, rfl, ?_⟩
      rw [List.set_set, ← h2, List.set_getElem_self]
  cases ha : eqS (zI0 it [i] (rowT [])) nd with
  | true => exact ((zGs _ _).2 (key.1 ((zGs _ _).1 ha))).symm
  | false =>
    cases hb : eqS it (zAr nd i inner) with
    | false => rfl
    | true => exact absurd ((zGs _ _).2 (key.2 ((zGs _ _).1 hb))) (by rw [ha]; simp)
theorem zK2 {l:List Tree} (h:zB0 (rowT l) = true) {i k:Nat} (hi:i < l.length) (hk:k < l[i].kids.length):l[i].kids[k] = rowT l[i].kids[k].kids∧(l[i].kind == 1) = false:=by
 have f1:=zC1 (t:=rowT l) h (i:=i) hi
 have hk1:(l[i].kind == 1) = false:=by simpa [rowT,Tree.kind,Tree.kids] using f1.2
 have f2:=zC1 f1.1 hk
 have hkind:((l[i].kids[k]).kind == 1) = true:=by
  have:=f2.2
  simp only [rowT,Tree.kids] at this ⊢
  rw [this,hk1];rfl
 exact ⟨zNv f2.1 (by simpa using hkind),hk1⟩
def EqC (w:World) (b:Bool) (e:Ending) (w':World):Prop:=e = .returned (.bool b)∧Below w.heap.size w w'
def EqH (t:Tree):Prop:=∀ (u:Tree) (W:World) (v1 v2:Value),zAa zAb W (Lt W.heap.size) t.kids v1→zAa zAb W (Lt W.heap.size) u.kids v2 →
 Calls Tryz.prog 167 #[.agg #[.int .i64 t.kind,.string t.text,.int .i64 t.cols,v1],.agg #[.int .i64 u.kind,.string u.text,.int .i64 u.cols,v2]] W (EqC W (eqS t u))
set_option maxHeartbeats 1000000 in
theorem eqf_of (xs ys:List Tree) (w:World) (A A':Option Addr) (cap cap':Nat) (hv:zAa zAb w (Lt w.heap.size) xs (.slice A xs.length cap)) (hu:zAa zAb w (Lt w.heap.size) ys (.slice A' ys.length cap')) (hE:∀ t ∈ xs,EqH t) :
  Calls Tryz.prog 166 #[.slice A xs.length cap,.slice A' ys.length cap',.func (.func 167) #[] #[]] w (EqC w (xs.length == ys.length && eqsS xs ys)):=by
 obtain ⟨_,_,rs,hq,hcap,hmax,hrd,hls⟩:=hv
 cases hq
 obtain ⟨_,_,rs',hq,hcap',hmax',hrd',hls'⟩:=hu
 cases hq
 unfold maxLen at hmax hmax'
 have H:Hid (zBk w (Lt w.heap.size) A rs∧zAw zAb w (Lt w.heap.size) xs rs):=⟨hrd,hls⟩
 have H':Hid (zBk w (Lt w.heap.size) A' rs'∧zAw zAb w (Lt w.heap.size) ys rs'):=⟨hrd',hls'⟩
 clear hrd hls hrd' hls'
 have l0:xs.length≤9223372036854775807:=by omega
 have l1:ys.length≤9223372036854775807:=by omega
 by_cases hl:xs.length = ys.length
 ·have b0:((xs.length:Int) != (ys.length:Int)) = false:=by simp [hl]
  have HF:Hid ((xs.length == ys.length && eqsS xs ys) = eqsS xs ys):=by show _ = _;simp [hl]
  rw [HF.out]
  clear HF
  have HL:=hid hl
  have hE':=hid hE
  clear hE hl
  go_enter Tryz.func166,Tryz.ntmps166
  go_wp2_with fail
  go_loopw [17] (fun i wr=>Below w.heap.size w wr∧∃ (k:Nat),k≤xs.length∧i = .int .i64 k∧eqsS (xs.drop k) (ys.drop k) = eqsS xs ys) (fun i _=>xs.length - (intOf i).toNat)
  case atStart=>exact ⟨Below.refl _ _,0,Nat.zero_le _,rfl,rfl⟩
  case round =>
   obtain ⟨hb,k,hk,rfl,hrest⟩:=hrel
   have HR:=hid hrest
   have HB:=hid hb
   clear hrest
   by_cases hlt:k < xs.length
   ·have hlt':k < ys.length:=by have:=HL.out;omega
    obtain ⟨g,o,B,bc,bs,rfl,hg,c0,c1,c2,c3,_,_,_,hc5,hc6,hrd,hls⟩:=zAy (H.out.1.keep (Same.of_below hb (Nat.le_refl _)) (Lt.mono hb.size)) (H.out.2.keep (Same.of_below hb (Nat.le_refl _)) (Lt.mono hb.size)) hlt
    obtain ⟨g',o',B',bc',bs',rfl,hg',d0,d1,d2,d3,_,_,_,hd5,hd6,hrd',hls'⟩:=zAy (H'.out.1.keep (Same.of_below hb (Nat.le_refl _)) (Lt.mono hb.size)) (H'.out.2.keep (Same.of_below hb (Nat.le_refl _)) (Lt.mono hb.size)) hlt'
    have hg1:g < wr.heap.size:=hg
    have hg2:g' < wr.heap.size:=hg'
    have hmem:xs[k] ∈ xs:=List.getElem_mem hlt
    have HT:=hid (zL0 hlt hlt')
    have HV:Hid (zAa zAb wr (Lt wr.heap.size) xs[k].kids (.slice B xs[k].kids.length bc)):=⟨B,bc,bs,rfl,hc5,hc6,hrd,hls⟩
    have HV':Hid (zAa zAb wr (Lt wr.heap.size) ys[k].kids (.slice B' ys[k].kids.length bc')):=⟨B',bc',bs',rfl,hd5,hd6,hrd',hls'⟩
    have HC:Hid (∀ W,Below wr.heap.size wr W→Calls Tryz.prog 167 #[.agg #[.int .i64 xs[k].kind,.string xs[k].text,.int .i64 xs[k].cols,.slice B xs[k].kids.length bc],.agg #[.int .i64 ys[k].kind,.string ys[k].text,.int .i64 ys[k].cols,.slice B' ys[k].kids.length bc']] W (EqC W (eqS xs[k] ys[k]))) :=
     fun W hW=>hE'.out _ hmem ys[k] W _ _ (HV.out.below hW hW.size) (HV'.out.below hW hW.size)
    have hx2:=(Below.refl wr.heap.size wr).alloc (Nat.le_refl _) (Obj.cells #[.int .i64 xs[k].kind,.string xs[k].text,.int .i64 xs[k].cols,.slice B xs[k].kids.length bc] 24)
    have HX:=hid (hx2.alloc (by simp) (Obj.cells #[.int .i64 ys[k].kind,.string ys[k].text,.int .i64 ys[k].cols,.slice B' ys[k].kids.length bc'] 24))
    clear hrd hls hrd' hls' hb hc5 hc6 hd5 hd6 hE' b0 hx2
    generalize hb3:eqS xs[k] ys[k] = b3 at *
    clear hb3
    have i0:(k:Int) < (xs.length:Int):=by omega
    cases b3
    ·have HF:Hid (eqsS xs ys = false):=by show _ = _;rw [← HR.out,HT.out];rfl
     go_wp2_with fail
     refine (HC.out _ HX.out).mono ?_
     rintro e w3 ⟨rfl,hb3⟩
     have HP:=hid (HB.out.trans ((HX.out.trans (hb3.mono HX.out.size)).mono HB.out.size))
     clear hb3
     go_wp2_with fail
     go_ret
     exact ⟨by rw [HF.out];rfl,HP.out⟩
    ·have HF:Hid (eqsS (xs.drop (k + 1)) (ys.drop (k + 1)) = eqsS xs ys):=by show _ = _;rw [← HR.out,HT.out];rfl
     go_wp2_with fail
     refine (HC.out _ HX.out).mono ?_
     rintro e w3 ⟨rfl,hb3⟩
     have HP:=hid (HB.out.trans ((HX.out.trans (hb3.mono HX.out.size)).mono HB.out.size))
     clear hb3
     go_wp2_with fail
     go_roundw
     case rel=>exact ⟨HP.out,k + 1,by omega,by go_num,HF.out⟩
     case measure=>simp [intOf];omega
   ·have HF:Hid (eqsS xs ys = true):=by show _ = _;rw [← HR.out,List.drop_of_length_le (by omega),eqsS];simp
    clear hb
    go_wp2_with fail
    go_ret
    exact ⟨by rw [HF.out];rfl,HB.out⟩
 ·have b0:((xs.length:Int) != (ys.length:Int)) = true:=by simp;omega
  have HF:Hid ((xs.length == ys.length && eqsS xs ys) = false):=by show _ = _;simp [hl]
  clear hE
  go_enter Tryz.func166,Tryz.ntmps166
  go_wp2_with fail
  go_ret
  exact ⟨by rw [HF.out];rfl,Below.refl _ _⟩
set_option maxHeartbeats 1000000 in
theorem zJh (t:Tree):EqH t:=by
 induction t using Tree.ind with
 | h t ih =>
 obtain ⟨tk,tx,tc,ts⟩:=t
 intro u w a b ha hb
 obtain ⟨uk,ux,uc,us⟩:=u
 simp only [Tree.kind,Tree.text,Tree.cols,Tree.kids] at *
 have HA:=hid ha
 have HB:=hid hb
 obtain ⟨A,cap,_,rfl,_,_,_,_⟩:=ha
 obtain ⟨A',cap',_,rfl,_,_,_,_⟩:=hb
 rename_i h1 h2 h3 h4 h5 h6 h7 h8
 clear h1 h2 h3 h4 h5 h6 h7 h8
 have HC:Hid (∀ W,Below w.heap.size w W→Calls Tryz.prog 166 #[.slice A ts.length cap,.slice A' us.length cap',.func (.func 167) #[] #[]] W (EqC W (ts.length == us.length && eqsS ts us))) :=
  fun W hW=>eqf_of ts us W A A' cap cap' (HA.out.below hW hW.size) (HB.out.below hW hW.size) ih
 have HE:Hid (eqS (.mk tk tx tc ts) (.mk uk ux uc us) = (tk == uk && (tx.toList == ux.toList && (tc == uc && (ts.length == us.length && eqsS ts us))))):=by show _ = _;rw [eqS]
 rw [HE.out]
 clear HE ih HA HB
 have HW:Hid (Below w.heap.size w ((w.alloc (Obj.cells #[Value.int IntKind.i64 tk,Value.string tx,Value.int IntKind.i64 tc,.slice A ts.length cap] 24)).alloc
   (Obj.cells #[Value.int IntKind.i64 uk,Value.string ux,Value.int IntKind.i64 uc,.slice A' us.length cap'] 24))):=((Below.refl _ _).alloc (Nat.le_refl _) _).alloc (by simp) _
 generalize hq:(ts.length == us.length && eqsS ts us) = b at *
 clear hq
 generalize hq1:(tk == uk) = b1 at *
 generalize hq2:(tx.toList == ux.toList) = b2 at *
 generalize hq3:(tc == uc) = b3 at *
 have hd1:decide (tk = uk) = b1:=by rw [← hq1];simp [Bool.beq_eq_decide_eq]
 have hd3:decide (tc = uc) = b3:=by rw [← hq3];simp [Bool.beq_eq_decide_eq]
 cases b1
 ·go_enter Tryz.func167,Tryz.ntmps167
  go_wp2_with fail
  go_ret
  exact ⟨by rfl,HW.out⟩
 cases b2
 ·go_enter Tryz.func167,Tryz.ntmps167
  go_wp2_with fail
  go_ret
  exact ⟨by rfl,HW.out⟩
 cases b3
 ·go_enter Tryz.func167,Tryz.ntmps167
  go_wp2_with fail
  go_ret
  exact ⟨by rfl,HW.out⟩
 go_enter Tryz.func167,Tryz.ntmps167
 go_wp2_with fail
 refine (HC.out _ HW.out).mono ?_
 rintro e w3 ⟨rfl,hb3⟩
 have HP:=hid (HW.out.trans (hb3.mono HW.out.size))
 clear hb3 HW
 go_wp2_with fail
 go_ret
 exact ⟨by rfl,HP.out⟩
theorem eqf_any (xs ys:List Tree) (w:World) (A A':Option Addr) (cap cap':Nat) (hv:zAa zAb w (Lt w.heap.size) xs (.slice A xs.length cap)) (hu:zAa zAb w (Lt w.heap.size) ys (.slice A' ys.length cap')) :
  Calls Tryz.prog 166 #[.slice A xs.length cap,.slice A' ys.length cap',.func (.func 167) #[] #[]] w (EqC w (xs.length == ys.length && eqsS xs ys)) :=
 eqf_of xs ys w A A' cap cap' hv hu (fun t _=>zJh t)
set_option maxHeartbeats 400000 in
theorem zJg (ts:List Tree) (A:Option Addr) (cap:Nat) (w:World) (hv:zAa zAb w (Lt w.heap.size) ts (.slice A ts.length cap)) :
  Calls Tryz.prog 50 #[.slice A ts.length cap] w (EqC w (zAf (rowT ts))):=by
 have C1:Hid (Calls Tryz.prog 49 #[.agg #[.int .i64 1,.string ⟨#[]⟩,.int .i64 0,.slice A ts.length cap]] w fun e w'=>e = .returned (.bool (zAf (rowT ts)))∧Below w.heap.size w w') :=
  zCc (rowT ts) A cap w hv (show (⟨#[]⟩:ByteArray).size≤maxLen from Nat.zero_le _)
 clear hv
 go_enter Tryz.func50,Tryz.ntmps50
 go_wp2_with fail
 refine C1.out.mono ?_
 rintro e w1 ⟨rfl,hb1⟩
 go_wp2_with fail
 go_ret
 exact ⟨rfl,hb1⟩
def nslS (t:Tree):Int:=if t.kind = 1 then 0 else t.kids.length
set_option maxHeartbeats 400000 in
theorem zK0 (t:Tree) (A:Option Addr) (cap:Nat) (w:World):Calls Tryz.prog 130 #[.agg #[.int .i64 t.kind,.string t.text,.int .i64 t.cols,.slice A t.kids.length cap]] w fun e w'=>e = .returned (.int .i64 (nslS t))∧Below w.heap.size w w':=by
 have hb:=blA w (Obj.cells #[.int .i64 t.kind,.string t.text,.int .i64 t.cols,.slice A t.kids.length cap] 24)
 unfold nslS
 by_cases h:t.kind = 1
 ·rw [h] at hb ⊢
  go_enter Tryz.func130,Tryz.ntmps130
  go_wp2_with fail
  go_ret
  exact ⟨by simp,hb⟩
 ·have i0:(t.kind == 1) = false:=by simpa using h
  go_enter Tryz.func130,Tryz.ntmps130
  go_wp2_with fail
  go_ret
  exact ⟨by simp [h],hb⟩
theorem zMk {t:Tree} (h:zAf (rowT [t]) = true):nslS t = t.kids.length:=by
 have hf:=(zA0 h).2.2.1
 have h1:=(zC1 (t:=rowT [t]) hf (i:=0) (by simp [rowT,Tree.kids])).2
 simp [rowT,Tree.kids,Tree.kind] at h1
 exact if_neg h1
set_option maxHeartbeats 4000000 in
theorem zKo (l:List Tree) (slot:Int) (A:Option Addr) (cap:Nat) (w:World) (hv:zAa zAb w (Lt w.heap.size) l (.slice A l.length cap)) :
  Calls Tryz.prog 88 #[.slice A l.length cap,.int .i64 slot] w (EqC w (zA9 l slot)):=by
 by_cases h1:l.length = 1
 rotate_left
 ·have hf:zA9 l slot = false:=by unfold zA9;simp [h1]
  rw [hf]
  have i0:((l.length:Int) != 1) = true:=by simp;omega
  clear hv hf
  go_enter Tryz.func88,Tryz.ntmps88
  go_wp2_with fail
  go_ret
  exact ⟨rfl,Below.refl _ _⟩
 obtain ⟨t,rfl⟩:∃ t,l = [t]:=List.length_eq_one_iff.1 h1
 clear h1
 have HC1:=hid (zJg [t] A cap w hv)
 simp only [List.length_cons,List.length_nil,Nat.zero_add] at hv HC1 ⊢
 obtain ⟨_,_,rs0,hq,_,_,hrd0,hls0⟩:=hv
 cases hq
 obtain ⟨g,o,A1,c1,rs1,rfl,hg,t0,t1,t2,t3,b1,b2,b3,b4,b5,hrd1,hls1⟩:=zAy hrd0 hls0 (k:=0) (by simp)
 simp only [Nat.zero_mul,Nat.add_zero,List.getElem_cons_zero] at t0 t1 t2 t3 b1 b2 b3 b4 b5 hrd1 hls1
 have hgl:g < w.heap.size:=hg
 have KN:Hid (∀ W,Below w.heap.size w W→W.cell? ⟨g,o,none⟩ = some (.int .i64 t.kind)∧W.cell? ⟨g,o + 1,none⟩ = some (.string t.text)∧W.cell? ⟨g,o + 2,none⟩ = some (.int .i64 t.cols)∧W.cell? ⟨g,o + 3,none⟩ = some (.slice A1 t.kids.length c1)):=fun W hW =>
  ⟨(hW.cell (p:=⟨g,_,none⟩) hgl).trans t0,(hW.cell (p:=⟨g,_,none⟩) hgl).trans t1,(hW.cell (p:=⟨g,_,none⟩) hgl).trans t2,(hW.cell (p:=⟨g,_,none⟩) hgl).trans t3⟩
 have HS:Hid (zA9 [t] slot = (zAf (rowT [t]) && (decide (0≤slot) && (decide (slot < t.kids.length) && decide ((kidS t slot).kids.length = 0))))):=by show _ = _;unfold zA9;simp
 have hks:Hid (∀ W,Below w.heap.size w W→0≤slot→slot < t.kids.length→∃ gk ok Ak ck,A1 = some ⟨gk,ok,none⟩∧W.cell? ⟨gk,ok + slot.toNat * 4 + 3,none⟩ = some (.slice Ak (kidS t slot).kids.length ck)):=fun W hW h0 h1=>by
  obtain ⟨gk,ok,Ak,ck,_,rfl,hgk,_,_,_,k3,_⟩:=zAy hrd1 hls1 (k:=slot.toNat) (by omega)
  have e:kidS t slot = t.kids[slot.toNat]'(by omega):=zDj (by omega)
  rw [e]
  exact ⟨gk,ok,Ak,ck,rfl,(hW.cell (p:=⟨gk,_,none⟩) hgk).trans k3⟩
 rw [HS.out]
 have HBV':=hid (zMk (t:=t))
 generalize hbv:zAf (rowT [t]) = bv at *
 clear hrd0 hls0 hrd1 hls1 t0 t1 t2 t3 b1 b2 b3
 cases bv
 ·go_enter Tryz.func88,Tryz.ntmps88
  go_wp2_with fail
  refine HC1.out.mono ?_
  rintro e w1 ⟨rfl,hb1⟩
  have HB1:=hid hb1
  clear hb1
  go_wp2_with fail
  go_ret
  exact ⟨rfl,HB1.out⟩
 rcases Int.lt_or_le slot 0 with h2 | h2
 ·have i1:decide (0≤slot) = false:=by simpa using h2
  have i2:decide (slot < 0) = true:=by simpa using h2
  rw [i1]
  go_enter Tryz.func88,Tryz.ntmps88
  go_wp2_with fail
  refine HC1.out.mono ?_
  rintro e w1 ⟨rfl,hb1⟩
  have HB1:=hid hb1
  clear hb1
  go_wp2_with fail
  go_ret
  exact ⟨rfl,HB1.out⟩
 have i2:decide (slot < 0) = false:=by simpa using h2
 have HC2:Hid (∀ W,Calls Tryz.prog 130 #[.agg #[.int .i64 t.kind,.string t.text,.int .i64 t.cols,.slice A1 t.kids.length c1]] W fun e w'=>e = .returned (.int .i64 t.kids.length)∧Below W.heap.size W w'):=fun W=>by
  have h:=zK0 t A1 c1 W
  rw [HBV'.out rfl] at h
  exact h
 have hlen:(t.kids.length:Int)≤9223372036854775807:=by unfold maxLen at b5;omega
 rcases Int.lt_or_le slot t.kids.length with h3 | h3
 ·have i3:decide ((t.kids.length:Int)≤slot) = false:=by simpa using h3
  have i4:decide (slot < (t.kids.length:Int)) = true:=by simpa using h3
  have i1:decide (0≤slot) = true:=by simpa using h2
  obtain ⟨gk,ok,Ak,ck,rfl,_⟩:=hks.out w (Below.refl _ _) h2 h3
  have hcc:∀ W,Below w.heap.size w W→W.cell? ⟨gk,ok + slot.toNat * 4 + 3,none⟩ = W.cell? ⟨gk,ok + slot.toNat * 4 + 3,none⟩:=fun W hW=>rfl
  obtain ⟨sl,hsl⟩:∃ sl:Nat,slot = sl:=⟨slot.toNat,by omega⟩
  rw [i4,i1]
  go_enter Tryz.func88,Tryz.ntmps88
  go_wp2_with fail
  refine HC1.out.mono ?_
  rintro e w1 ⟨rfl,hb1⟩
  have HB1:=hid hb1
  obtain ⟨q0,q1,q2,q3⟩:=KN.out w1 hb1
  clear hb1
  go_wp2_with fail
  refine (HC2.out _).mono ?_
  rintro e w2 ⟨rfl,hb2⟩
  have HB2:=hid (HB1.out.trans (hb2.mono HB1.out.size))
  obtain ⟨q0,q1,q2,q3⟩:=KN.out w2 HB2.out
  obtain ⟨gk',ok',Ak',ck',he,q5⟩:=hks.out w2 HB2.out h2 h3
  cases he
  clear hb2
  subst hsl
  simp only [Int.toNat_natCast] at q5
  go_wp2_with fail
  go_ret
  exact ⟨by simp [Bool.beq_eq_decide_eq],HB2.out⟩
 ·have i3:decide ((t.kids.length:Int)≤slot) = true:=by simpa using h3
  have i4:decide (slot < (t.kids.length:Int)) = false:=by simpa using h3
  rw [i4]
  go_enter Tryz.func88,Tryz.ntmps88
  go_wp2_with fail
  refine HC1.out.mono ?_
  rintro e w1 ⟨rfl,hb1⟩
  have HB1:=hid hb1
  obtain ⟨q0,q1,q2,q3⟩:=KN.out w1 hb1
  clear hb1
  go_wp2_with fail
  refine (HC2.out _).mono ?_
  rintro e w2 ⟨rfl,hb2⟩
  have HB2:=hid (HB1.out.trans (hb2.mono HB1.out.size))
  clear hb2
  go_wp2_with fail
  go_ret
  exact ⟨by simp,HB2.out⟩
end Go.Proofs.YtbjcioknfjofkaaGreat
