/- Texts put together. -/
import Derived.Test.YtbjcioknfjofkaaGreatQ2a6bd4da00
import Derived.Deep.QuietTactic
import Derived.BigQuiet
set_option linter.unusedVariables false
set_option linter.unusedSimpArgs false
set_option maxRecDepth 100000
namespace Go.Proofs.YtbjcioknfjofkaaGreat
open Go.RowKit
section
variable {α:Type} (E:Enc α) {t e:TypeId} (ht:Tryz.prog.underlying t = some (.slice e)) (hs:∀ w,(Go.sizeOf e).run Tryz.prog w = .ok E.size w)
include ht hs
theorem zNc (A : Option Addr) (n c : Nat) (l : Int) (k : Nat) (hk : l = k) (hl : k ≤ n) :
    ∃ A', (∀ w, (Instr.slice t (.slice A n c) (some (.int .i64 l)) none none).run Tryz.prog w = .ok (.slice A' (n - k) (c - k)) w) ∧
      (∀ w S (xs : List α), zAa E w S xs (.slice A n c) → zAa E w S (xs.drop k) (.slice A' (n - k) (c - k))) := by
  subst hk
  have he : Tryz.prog.elem t = e := by simp [Program.elem, ht]
  refine ⟨if c = k then A else A.map (·.add (k * E.size)), fun w => ?_, fun w S xs h => ?_⟩
  · rw [run_slice_l w t A n c (by rw [he]; exact ht) .i64 k (by omega) (by omega), he, hs w]
    simp [Result.andThen, sliced]
  · have hx : xs.length = n := by obtain ⟨A', cap, cs, e, _⟩ := h; injection e with _ e2; exact e2.symm
    have := h.cut k n hl (Nat.le_refl _)
    rwa [List.take_of_length_le (by omega)] at this
theorem zL3 (A : Option Addr) (n c : Nat) (l : Int) (k : Nat) (hk : l = k) (hl : k ≤ n) (hc : n ≤ c) :
    ∃ A', (∀ w, (Instr.slice t (.slice A n c) none (some (.int .i64 l)) none).run Tryz.prog w = .ok (.slice A' k c) w) ∧
      (∀ w S (xs : List α), zAa E w S xs (.slice A n c) → zAa E w S (xs.take k) (.slice A' k c)) := by
  subst hk
  have he : Tryz.prog.elem t = e := by simp [Program.elem, ht]
  refine ⟨if c = 0 then A else A.map (·.add (0 * E.size)), fun w => ?_, fun w S xs h => ?_⟩
  · rw [run_slice_h w t A n c (by rw [he]; exact ht) .i64 k (by omega) (by omega), he, hs w]
    simp [Result.andThen, sliced]
  · have := h.cut 0 k (Nat.zero_le _) hl
    simpa using this
theorem zIj (A : Option Addr) (n c : Nat) (l h : Int) (i j : Nat) (hi : l = i) (hj : h = j) (hl : i ≤ j) (hh : j ≤ n) (hc : n ≤ c) :
    ∃ A', (∀ w, (Instr.slice t (.slice A n c) (some (.int .i64 l)) (some (.int .i64 h)) none).run Tryz.prog w = .ok (.slice A' (j - i) (c - i)) w) ∧
      (∀ w S (xs : List α), zAa E w S xs (.slice A n c) → zAa E w S ((xs.take j).drop i) (.slice A' (j - i) (c - i))) := by
  subst hi hj
  have he : Tryz.prog.elem t = e := by simp [Program.elem, ht]
  refine ⟨if c = i then A else A.map (·.add (i * E.size)), fun w => ?_, fun w S xs h => h.cut i j hl hh⟩
  rw [run_slice_lh w t A n c (by rw [he]; exact ht) .i64 .i64 i j (by omega) (by omega) (by omega), he, hs w]
  simp [Result.andThen, sliced]
end
theorem zCm (w:World):(Go.sizeOf 3).run Tryz.prog w = .ok intE.size w:=by kernel_rfl
theorem zCp (w:World):(Go.sizeOf 24).run Tryz.prog w = .ok zAb.size w:=by kernel_rfl
theorem Tree.ind {P : Tree → Prop} (h : ∀ t : Tree, (∀ k ∈ t.kids, P k) → P t) : ∀ t, P t := by
  intro t
  have : ∀ (n : Nat) (t : Tree), SizeOf.sizeOf t ≤ n → P t := by
    intro n
    induction n with
    | zero => intro t ht; cases t; simp at ht
    | succ n ih =>
      intro t ht
      refine h t fun k hk => ih k ?_
      cases t with
      | mk a b c ts =>
        have := List.sizeOf_lt_of_mem (show k ∈ ts from hk)
        simp at ht; omega
  exact this _ t (Nat.le_refl _)
mutual
def zF8:Tree→Int→Int
 | .mk _ _ _ ts,m=>zC8 ts (m - 1)
def zC8:List Tree→Int→Int
 | [],m=>m
 | t :: ts,m=>if 0≤m then zC8 ts (zF8 t m) else m
end
mutual
theorem zN2 : (t : Tree) → (m : Int) → 0 ≤ m → -1 ≤ zF8 t m ∧ zF8 t m ≤ m - 1
  | .mk _ _ _ ts, m, h => by
    unfold zF8
    exact zLl ts (m - 1) (by omega)
theorem zLl : (ts : List Tree) → (m : Int) → -1 ≤ m → -1 ≤ zC8 ts m ∧ zC8 ts m ≤ m
  | [], m, h => by simp [zC8]; exact h
  | t :: ts, m, h => by
    unfold zC8
    split
    · have h1 := zN2 t m (by omega)
      have h2 := zLl ts (zF8 t m) h1.1
      omega
    · omega
end
set_option maxHeartbeats 400000 in
theorem left_any (t:Tree):∀ (w:World) (v:Value) (m:Int) (_:zAa zAb w (Lt w.heap.size) t.kids v) (_:0≤m) (_:m≤1000000),
  Calls Tryz.prog 34 #[.agg #[.int .i64 t.kind,.string t.text,.int .i64 t.cols,v],.int .i64 m] w fun e w'=>e = .returned (.int .i64 (zF8 t m))∧Below w.heap.size w w':=by
 induction t using Tree.ind with
 | h t ih =>
 obtain ⟨tk,tx,tc,ts⟩:=t
 intro w v m hv hm0 hm1
 simp only [Tree.kind,Tree.text,Tree.cols,Tree.kids] at *
 obtain ⟨A,cap,rs,rfl,hcap,hmax,hrd,hls⟩:=hv
 unfold maxLen at hmax
 have hlen:ts.length≤9223372036854775807:=by omega
 have H:Hid (zBk w (Lt w.heap.size) A rs∧zAw zAb w (Lt w.heap.size) ts rs):=⟨hrd,hls⟩
 clear hrd hls
 go_enter Tryz.func34,Tryz.ntmps34
 go_wp2
 go_loopw [1,5] (fun m' i wr=>Below w.heap.size w wr∧wr.cell? ⟨w.heap.size,3,none⟩ = some (.slice A ts.length cap)∧w.heap.size < wr.heap.size∧∃ (k:Nat) (n:Int),k≤ts.length∧i = .int .i64 k∧m' = .int .i64 n∧-1≤n∧n≤1000000∧zC8 (ts.drop k) n = zC8 ts (m - 1)) (fun _ i _=>ts.length - (intOf i).toNat)
 case atStart=>exact ⟨(Below.refl _ _).alloc (Nat.le_refl _) _,World.cell?_alloc_new _ _ _ _,by simp,0,m - 1,Nat.zero_le _,rfl,rfl,by omega,by omega,rfl⟩
 case round =>
  obtain ⟨hb,hs,hz,k,n,hk,rfl,rfl,hn0,hn1,hrest⟩:=hrel
  have HR:Hid (zC8 (ts.drop k) n = zC8 ts (m - 1)):=hrest
  clear hrest
  by_cases hlt:k < ts.length
  ·by_cases hn:0≤n
   ·obtain ⟨g,o,A',cap',rs',rfl,hg,c0,c1,c2,c3,_,_,_,hc5,hc6,hrd',hls'⟩:=zAy (H.out.1.keep (Same.of_below hb (Nat.le_refl _)) (Lt.mono hb.size)) (H.out.2.keep (Same.of_below hb (Nat.le_refl _)) (Lt.mono hb.size)) hlt
    have hmem:ts[k] ∈ ts:=List.getElem_mem hlt
    have hbd:=zN2 ts[k] n hn
    have hv':zAa zAb wr (Lt wr.heap.size) ts[k].kids (.slice A' ts[k].kids.length cap'):=⟨A',cap',rs',rfl,hc5,hc6,hrd',hls'⟩
    go_wp2_with fail
    refine (ih ts[k] hmem wr _ n hv' hn (by omega)).mono ?_
    rintro e w1 ⟨rfl,hb1⟩
    have hs1:w1.cell? ⟨w.heap.size,3,none⟩ = some (.slice (some ⟨g,o,none⟩) ts.length cap):=((bcell hb1).1 _ _ hz).trans hs
    clear hv' hrd' hls' c0 c1 c2 c3 hs
    go_wp2_with fail
    go_roundw
    case rel=>exact ⟨hb.trans (hb1.mono hb.size),hs1,by have:=hb1.size;omega,k + 1,_,by omega,by go_num,rfl,by omega,by omega,by rw [← HR.out,List.drop_eq_getElem_cons hlt,zC8,if_pos hn]⟩
    case measure=>simp [intOf];omega
   ·have hd:zC8 (ts.drop k) n = n:=by rw [List.drop_eq_getElem_cons hlt,zC8,if_neg hn]
    have HD:=hid (HR.out.symm.trans hd)
    clear hd
    go_wp2_with fail
    go_ret
    exact ⟨by rw [zF8,HD.out];rfl,hb⟩
  ·have hd:zC8 (ts.drop k) n = n:=by rw [List.drop_of_length_le (by omega),zC8]
   have HD:=hid (HR.out.symm.trans hd)
   clear hd
   go_wp2_with fail
   go_ret
   exact ⟨by rw [zF8,HD.out];rfl,hb⟩
def fewS (t:Tree) (m:Int):Bool:=decide (0≤zF8 t m)
set_option maxHeartbeats 400000 in
theorem zQi (t:Tree) (w:World) (v:Value) (m:Int) (hv:zAa zAb w (Lt w.heap.size) t.kids v) (h0:0≤m) (h1:m≤1000000) :
  Calls Tryz.prog 13 #[.agg #[.int .i64 t.kind,.string t.text,.int .i64 t.cols,v],.int .i64 m] w fun e w'=>e = .returned (.bool (fewS t m))∧Below w.heap.size w w':=by
 have hb0:Below w.heap.size w (w.alloc (.cells #[.int .i64 t.kind,.string t.text,.int .i64 t.cols,v] 24)):=(Below.refl _ _).alloc (Nat.le_refl _) _
 have hv':=hv.below hb0 hb0.size
 go_enter Tryz.func13,Tryz.ntmps13
 go_wp2_with fail
 refine (left_any t _ v m hv' h0 h1).mono ?_
 rintro e w1 ⟨rfl,hb1⟩
 go_wp2_with fail
 go_ret
 exact ⟨rfl,hb0.trans (hb1.mono (by simp))⟩
mutual
def zAe:Tree→Nat
 | .mk _ _ _ ts=>1 + zAd ts
def zAd:List Tree→Nat
 | []=>0
 | t :: ts=>zAe t + zAd ts
end
mutual
def zBc:Tree→Nat
 | .mk _ _ _ ts=>zBb ts + 1
def zBb:List Tree→Nat
 | []=>0
 | t :: ts=>max (zBc t) (zBb ts)
end
theorem zB8 (xs ys:List Tree):zAd (xs ++ ys) = zAd xs + zAd ys:=by
 induction xs with
 | nil=>simp [zAd]
 | cons x xs ih=>simp [zAd,ih];omega
theorem zFm (xs ys:List Tree):zBb (xs ++ ys) = max (zBb xs) (zBb ys):=by
 induction xs with
 | nil=>simp [zBb]
 | cons x xs ih=>simp only [zBb,ih,List.cons_append];omega
theorem zBa {ts:List Tree} {k:Nat} (h:k < ts.length):zAd (ts.take (k + 1)) = zAd (ts.take k) + zAe ts[k]:=by
 rw [List.take_succ_eq_append_getElem h,zB8];simp [zAd]
theorem zL2 {ts:List Tree} {k:Nat} (h:k < ts.length):zBb (ts.take (k + 1)) = max (zBb (ts.take k)) (zBc ts[k]):=by
 rw [List.take_succ_eq_append_getElem h,zFm];simp [zBb]
theorem zAo (ts:List Tree) (k:Nat):zAd (ts.take k)≤zAd ts:=by
 conv=>rhs;rw [← List.take_append_drop k ts,zB8]
 omega
mutual
theorem zDl:(t:Tree)→zBc t≤zAe t
 | .mk _ _ _ ts=>by unfold zBc zAe;have:=zDs ts;omega
theorem zDs:(ts:List Tree)→zBb ts≤zAd ts
 | []=>by simp [zBb]
 | t :: ts=>by unfold zBb zAd;have:=zDl t;have:=zDs ts;omega
end
set_option maxHeartbeats 400000 in
theorem zQo (t:Tree):∀ (w:World) (v:Value) (_:zAa zAb w (Lt w.heap.size) t.kids v) (_:zAe t≤1000000000),
  Calls Tryz.prog 66 #[.agg #[.int .i64 t.kind,.string t.text,.int .i64 t.cols,v]] w fun e w'=>e = .returned (.int .i64 (zAe t))∧Below w.heap.size w w':=by
 induction t using Tree.ind with
 | h t ih =>
 obtain ⟨tk,tx,tc,ts⟩:=t
 intro w v hv hm
 simp only [Tree.kind,Tree.text,Tree.cols,Tree.kids] at *
 obtain ⟨A,cap,rs,rfl,hcap,hmax,hrd,hls⟩:=hv
 unfold maxLen at hmax
 have hlen:ts.length≤9223372036854775807:=by omega
 have H:Hid (zBk w (Lt w.heap.size) A rs∧zAw zAb w (Lt w.heap.size) ts rs):=⟨hrd,hls⟩
 have HC:Hid (zAe (.mk tk tx tc ts) = 1 + zAd ts):=by show _ = _;rw [zAe]
 rw [HC.out] at hm
 clear hrd hls
 go_enter Tryz.func66,Tryz.ntmps66
 go_wp2
 go_loopw [3,4] (fun o i wr=>Below w.heap.size w wr∧wr.cell? ⟨w.heap.size,3,none⟩ = some (.slice A ts.length cap)∧w.heap.size < wr.heap.size∧∃ (k:Nat),k≤ts.length∧i = .int .i64 k∧o = .int .i64 ((1 + zAd (ts.take k):Nat):Int)) (fun _ i _=>ts.length - (intOf i).toNat)
 case atStart=>exact ⟨(Below.refl _ _).alloc (Nat.le_refl _) _,World.cell?_alloc_new _ _ _ _,by simp,0,Nat.zero_le _,rfl,rfl⟩
 case round =>
  obtain ⟨hb,hs,hz,k,hk,rfl,rfl⟩:=hrel
  have hle:=zAo ts k
  by_cases hlt:k < ts.length
  ·obtain ⟨g,o,A',cap',rs',rfl,hg,c0,c1,c2,c3,_,_,_,hc5,hc6,hrd',hls'⟩:=zAy (H.out.1.keep (Same.of_below hb (Nat.le_refl _)) (Lt.mono hb.size)) (H.out.2.keep (Same.of_below hb (Nat.le_refl _)) (Lt.mono hb.size)) hlt
   have hmem:ts[k] ∈ ts:=List.getElem_mem hlt
   have hle2:=zAo ts (k + 1)
   have HT:=hid (zBa hlt)
   rw [HT.out] at hle2
   have hv':zAa zAb wr (Lt wr.heap.size) ts[k].kids (.slice A' ts[k].kids.length cap'):=⟨A',cap',rs',rfl,hc5,hc6,hrd',hls'⟩
   go_wp2_with fail
   refine (ih ts[k] hmem wr _ hv' (by omega)).mono ?_
   rintro e w1 ⟨rfl,hb1⟩
   have hs1:w1.cell? ⟨w.heap.size,3,none⟩ = some (.slice (some ⟨g,o,none⟩) ts.length cap):=((bcell hb1).1 _ _ hz).trans hs
   clear hv' hrd' hls' c0 c1 c2 c3 hs
   go_wp2_with fail
   go_roundw
   case rel=>exact ⟨hb.trans (hb1.mono hb.size),hs1,by have:=hb1.size;omega,k + 1,by omega,by go_num,by rw [HT.out];go_num⟩
   case measure=>simp [intOf];omega
  ·have HT:Hid (ts.take k = ts):=List.take_of_length_le (by omega)
   rw [HT.out]
   have HB:=hid hb
   clear hb
   go_wp2_with fail
   go_ret
   exact ⟨by rw [HC.out];rfl,HB.out⟩
set_option maxHeartbeats 400000 in
theorem zQn (t:Tree):∀ (w:World) (v:Value) (_:zAa zAb w (Lt w.heap.size) t.kids v) (_:zAe t≤1000000000),
  Calls Tryz.prog 67 #[.agg #[.int .i64 t.kind,.string t.text,.int .i64 t.cols,v]] w fun e w'=>e = .returned (.int .i64 (zBc t))∧Below w.heap.size w w':=by
 induction t using Tree.ind with
 | h t ih =>
 obtain ⟨tk,tx,tc,ts⟩:=t
 intro w v hv hm
 simp only [Tree.kind,Tree.text,Tree.cols,Tree.kids] at *
 obtain ⟨A,cap,rs,rfl,hcap,hmax,hrd,hls⟩:=hv
 unfold maxLen at hmax
 have hlen:ts.length≤9223372036854775807:=by omega
 have H:Hid (zBk w (Lt w.heap.size) A rs∧zAw zAb w (Lt w.heap.size) ts rs):=⟨hrd,hls⟩
 have HC:Hid (zBc (.mk tk tx tc ts) = zBb ts + 1):=by show _ = _;rw [zBc]
 have hcs:zAd ts≤1000000000:=by rw [zAe] at hm;omega
 clear hrd hls hm
 go_enter Tryz.func67,Tryz.ntmps67
 go_wp2
 go_loopw [3,4] (fun o i wr=>Below w.heap.size w wr∧wr.cell? ⟨w.heap.size,3,none⟩ = some (.slice A ts.length cap)∧w.heap.size < wr.heap.size∧∃ (k:Nat),k≤ts.length∧i = .int .i64 k∧o = .int .i64 ((zBb (ts.take k):Nat):Int)) (fun _ i _=>ts.length - (intOf i).toNat)
 case atStart=>exact ⟨(Below.refl _ _).alloc (Nat.le_refl _) _,World.cell?_alloc_new _ _ _ _,by simp,0,Nat.zero_le _,rfl,rfl⟩
 case round =>
  obtain ⟨hb,hs,hz,k,hk,rfl,rfl⟩:=hrel
  have hle:=zAo ts k
  have hld:=zDs (ts.take k)
  by_cases hlt:k < ts.length
  ·obtain ⟨g,o,A',cap',rs',rfl,hg,c0,c1,c2,c3,_,_,_,hc5,hc6,hrd',hls'⟩:=zAy (H.out.1.keep (Same.of_below hb (Nat.le_refl _)) (Lt.mono hb.size)) (H.out.2.keep (Same.of_below hb (Nat.le_refl _)) (Lt.mono hb.size)) hlt
   have hmem:ts[k] ∈ ts:=List.getElem_mem hlt
   have hle2:=zAo ts (k + 1)
   have hct:=zBa hlt
   have HT:=hid (zL2 hlt)
   have hkc:zAe ts[k]≤1000000000:=by omega
   have hdk:=zDl ts[k]
   have hv':zAa zAb wr (Lt wr.heap.size) ts[k].kids (.slice A' ts[k].kids.length cap'):=⟨A',cap',rs',rfl,hc5,hc6,hrd',hls'⟩
   clear hct hle2
   go_wp2_with fail
   refine (ih ts[k] hmem wr _ hv' hkc).mono ?_
   rintro e w1 ⟨rfl,hb1⟩
   have hs1:w1.cell? ⟨w.heap.size,3,none⟩ = some (.slice (some ⟨g,o,none⟩) ts.length cap):=((bcell hb1).1 _ _ hz).trans hs
   clear hv' hrd' hls' c0 c1 c2 c3 hs
   rcases Nat.lt_or_ge (zBb (ts.take k)) (zBc ts[k]) with hd | hd
   ·have HM:Hid (max (zBb (ts.take k)) (zBc ts[k]) = zBc ts[k]):=by show _ = _;omega
    go_wp2_with fail
    go_roundw
    case rel=>exact ⟨hb.trans (hb1.mono hb.size),hs1,by have:=hb1.size;omega,k + 1,by omega,by go_num,by first | (rw [HT.out,HM.out];done) | (rw [HT.out];have h9:=HM.out;simp only [Value.int.injEq,true_and];omega)⟩
    case measure=>simp [intOf];omega
   ·have HM:Hid (max (zBb (ts.take k)) (zBc ts[k]) = zBb (ts.take k)):=by show _ = _;omega
    go_wp2_with fail
    go_roundw
    case rel=>exact ⟨hb.trans (hb1.mono hb.size),hs1,by have:=hb1.size;omega,k + 1,by omega,by go_num,by first | (rw [HT.out,HM.out];done) | (rw [HT.out];have h9:=HM.out;simp only [Value.int.injEq,true_and];omega)⟩
    case measure=>simp [intOf];omega
  ·have HT:Hid (ts.take k = ts):=List.take_of_length_le (by omega)
   rw [HT.out]
   have HB:=hid hb
   rw [HT.out] at hld
   clear hb
   go_wp2_with fail
   go_ret
   exact ⟨by rw [HC.out];first | rfl | (simp;done),HB.out⟩
end Go.Proofs.YtbjcioknfjofkaaGreat
