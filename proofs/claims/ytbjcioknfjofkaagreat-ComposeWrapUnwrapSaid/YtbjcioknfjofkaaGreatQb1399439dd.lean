/- Texts put together. -/
import Derived.Test.YtbjcioknfjofkaaGreatQ30a789cc68
import Derived.Deep.QuietTactic
import Derived.BigQuiet
set_option linter.unusedVariables false
set_option linter.unusedSimpArgs false
set_option maxRecDepth 100000
namespace Go.Proofs.YtbjcioknfjofkaaGreat
open Go.RowKit
section
variable {α:Type} (E:Enc α) {t e:TypeId} (ht:Tryz.prog.underlying t = some (.slice e)) (hs:∀ w,(Go.sizeOf e).run Tryz.prog w = .ok E.size w)
include ht hs
theorem cut_l (A : Option Addr) (n c : Nat) (l : Int) (k : Nat) (hk : l = k) (hl : k ≤ n) :
    ∃ A', (∀ w, (Instr.slice t (.slice A n c) (some (.int .i64 l)) none none).run Tryz.prog w = .ok (.slice A' (n - k) (c - k)) w) ∧
      (∀ w S (xs : List α), SliceR E w S xs (.slice A n c) → SliceR E w S (xs.drop k) (.slice A' (n - k) (c - k))) := by
  subst hk
  have he : Tryz.prog.elem t = e := by simp [Program.elem, ht]
  refine ⟨if c = k then A else A.map (·.add (k * E.size)), fun w => ?_, fun w S xs h => ?_⟩
  · rw [run_slice_l w t A n c (by rw [he]; exact ht) .i64 k (by omega) (by omega), he, hs w]
    simp [Result.andThen, sliced]
  · have hx : xs.length = n := by obtain ⟨A', cap, cs, e, _⟩ := h; injection e with _ e2; exact e2.symm
    have := h.cut k n hl (Nat.le_refl _)
    rwa [List.take_of_length_le (by omega)] at this
theorem cut_h (A : Option Addr) (n c : Nat) (l : Int) (k : Nat) (hk : l = k) (hl : k ≤ n) (hc : n ≤ c) :
    ∃ A', (∀ w, (Instr.slice t (.slice A n c) none (some (.int .i64 l)) none).run Tryz.prog w = .ok (.slice A' k c) w) ∧
      (∀ w S (xs : List α), SliceR E w S xs (.slice A n c) → SliceR E w S (xs.take k) (.slice A' k c)) := by
  subst hk
  have he : Tryz.prog.elem t = e := by simp [Program.elem, ht]
  refine ⟨if c = 0 then A else A.map (·.add (0 * E.size)), fun w => ?_, fun w S xs h => ?_⟩
  · rw [run_slice_h w t A n c (by rw [he]; exact ht) .i64 k (by omega) (by omega), he, hs w]
    simp [Result.andThen, sliced]
  · have := h.cut 0 k (Nat.zero_le _) hl
    simpa using this
theorem cut_lh (A : Option Addr) (n c : Nat) (l h : Int) (i j : Nat) (hi : l = i) (hj : h = j) (hl : i ≤ j) (hh : j ≤ n) (hc : n ≤ c) :
    ∃ A', (∀ w, (Instr.slice t (.slice A n c) (some (.int .i64 l)) (some (.int .i64 h)) none).run Tryz.prog w = .ok (.slice A' (j - i) (c - i)) w) ∧
      (∀ w S (xs : List α), SliceR E w S xs (.slice A n c) → SliceR E w S ((xs.take j).drop i) (.slice A' (j - i) (c - i))) := by
  subst hi hj
  have he : Tryz.prog.elem t = e := by simp [Program.elem, ht]
  refine ⟨if c = i then A else A.map (·.add (i * E.size)), fun w => ?_, fun w S xs h => h.cut i j hl hh⟩
  rw [run_slice_lh w t A n c (by rw [he]; exact ht) .i64 .i64 i j (by omega) (by omega) (by omega), he, hs w]
  simp [Result.andThen, sliced]
end
theorem size_int (w:World):(Go.sizeOf 3).run Tryz.prog w = .ok intE.size w:=by kernel_rfl
theorem size_node (w:World):(Go.sizeOf 24).run Tryz.prog w = .ok treeE.size w:=by kernel_rfl
theorem Tree.ind {P : Tree → Prop} (h : ∀ t : Tree, (∀ k ∈ t.kids, P k) → P t) : ∀ t, P t := by
  intro t
  have : ∀ (n : Nat) (t : Tree), SizeOf.sizeOf t ≤ n → P t := by
    intro n
    induction n with
    | zero => intro t ht; cases t; simp at ht
    | succ n ih =>
      intro t ht
      refine h t fun k hk => ih k ?_
      cases t with
      | mk a b c ts =>
        have := List.sizeOf_lt_of_mem (show k ∈ ts from hk)
        simp at ht; omega
  exact this _ t (Nat.le_refl _)
mutual
def leftS:Tree→Int→Int
 | .mk _ _ _ ts,m=>leftsS ts (m - 1)
def leftsS:List Tree→Int→Int
 | [],m=>m
 | t :: ts,m=>if 0≤m then leftsS ts (leftS t m) else m
end
mutual
theorem leftS_bd : (t : Tree) → (m : Int) → 0 ≤ m → -1 ≤ leftS t m ∧ leftS t m ≤ m - 1
  | .mk _ _ _ ts, m, h => by
    unfold leftS
    exact leftsS_bd ts (m - 1) (by omega)
theorem leftsS_bd : (ts : List Tree) → (m : Int) → -1 ≤ m → -1 ≤ leftsS ts m ∧ leftsS ts m ≤ m
  | [], m, h => by simp [leftsS]; exact h
  | t :: ts, m, h => by
    unfold leftsS
    split
    · have h1 := leftS_bd t m (by omega)
      have h2 := leftsS_bd ts (leftS t m) h1.1
      omega
    · omega
end
set_option maxHeartbeats 400000 in
theorem left_any (t:Tree):∀ (w:World) (v:Value) (m:Int) (_:SliceR treeE w (Lt w.heap.size) t.kids v) (_:0≤m) (_:m≤1000000),
  Calls Tryz.prog 34 #[.agg #[.int .i64 t.kind,.string t.text,.int .i64 t.cols,v],.int .i64 m] w fun e w'=>e = .returned (.int .i64 (leftS t m))∧Below w.heap.size w w':=by
 induction t using Tree.ind with
 | h t ih =>
 obtain ⟨tk,tx,tc,ts⟩:=t
 intro w v m hv hm0 hm1
 simp only [Tree.kind,Tree.text,Tree.cols,Tree.kids] at *
 obtain ⟨A,cap,rs,rfl,hcap,hmax,hrd,hls⟩:=hv
 unfold maxLen at hmax
 have hlen:ts.length≤9223372036854775807:=by omega
 have H:Hid (Reads w (Lt w.heap.size) A rs∧ListR treeE w (Lt w.heap.size) ts rs):=⟨hrd,hls⟩
 clear hrd hls
 go_enter Tryz.func34,Tryz.ntmps34
 go_wp2
 go_loopw [1,5] (fun m' i wr=>Below w.heap.size w wr∧wr.cell? ⟨w.heap.size,3,none⟩ = some (.slice A ts.length cap)∧w.heap.size < wr.heap.size∧∃ (k:Nat) (n:Int),k≤ts.length∧i = .int .i64 k∧m' = .int .i64 n∧-1≤n∧n≤1000000∧leftsS (ts.drop k) n = leftsS ts (m - 1)) (fun _ i _=>ts.length - (intOf i).toNat)
 case atStart=>exact ⟨(Below.refl _ _).alloc (Nat.le_refl _) _,World.cell?_alloc_new _ _ _ _,by simp,0,m - 1,Nat.zero_le _,rfl,rfl,by omega,by omega,rfl⟩
 case round =>
  obtain ⟨hb,hs,hz,k,n,hk,rfl,rfl,hn0,hn1,hrest⟩:=hrel
  have HR:Hid (leftsS (ts.drop k) n = leftsS ts (m - 1)):=hrest
  clear hrest
  by_cases hlt:k < ts.length
  ·by_cases hn:0≤n
   ·obtain ⟨g,o,A',cap',rs',rfl,hg,c0,c1,c2,c3,_,_,_,hc5,hc6,hrd',hls'⟩:=trees_at (H.out.1.keep (Same.of_below hb (Nat.le_refl _)) (Lt.mono hb.size)) (H.out.2.keep (Same.of_below hb (Nat.le_refl _)) (Lt.mono hb.size)) hlt
    have hmem:ts[k] ∈ ts:=List.getElem_mem hlt
    have hbd:=leftS_bd ts[k] n hn
    have hv':SliceR treeE wr (Lt wr.heap.size) ts[k].kids (.slice A' ts[k].kids.length cap'):=⟨A',cap',rs',rfl,hc5,hc6,hrd',hls'⟩
    go_wp2_with fail
    refine (ih ts[k] hmem wr _ n hv' hn (by omega)).mono ?_
    rintro e w1 ⟨rfl,hb1⟩
    have hs1:w1.cell? ⟨w.heap.size,3,none⟩ = some (.slice (some ⟨g,o,none⟩) ts.length cap):=((bcell hb1).1 _ _ hz).trans hs
    clear hv' hrd' hls' c0 c1 c2 c3 hs
    go_wp2_with fail
    go_roundw
    case rel=>exact ⟨hb.trans (hb1.mono hb.size),hs1,by have:=hb1.size;omega,k + 1,_,by omega,by go_num,rfl,by omega,by omega,by rw [← HR.out,List.drop_eq_getElem_cons hlt,leftsS,if_pos hn]⟩
    case measure=>simp [intOf];omega
   ·have hd:leftsS (ts.drop k) n = n:=by rw [List.drop_eq_getElem_cons hlt,leftsS,if_neg hn]
    have HD:=hid (HR.out.symm.trans hd)
    clear hd
    go_wp2_with fail
    go_ret
    exact ⟨by rw [leftS,HD.out];rfl,hb⟩
  ·have hd:leftsS (ts.drop k) n = n:=by rw [List.drop_of_length_le (by omega),leftsS]
   have HD:=hid (HR.out.symm.trans hd)
   clear hd
   go_wp2_with fail
   go_ret
   exact ⟨by rw [leftS,HD.out];rfl,hb⟩
def fewS (t:Tree) (m:Int):Bool:=decide (0≤leftS t m)
set_option maxHeartbeats 400000 in
theorem few_any (t:Tree) (w:World) (v:Value) (m:Int) (hv:SliceR treeE w (Lt w.heap.size) t.kids v) (h0:0≤m) (h1:m≤1000000) :
  Calls Tryz.prog 13 #[.agg #[.int .i64 t.kind,.string t.text,.int .i64 t.cols,v],.int .i64 m] w fun e w'=>e = .returned (.bool (fewS t m))∧Below w.heap.size w w':=by
 have hb0:Below w.heap.size w (w.alloc (.cells #[.int .i64 t.kind,.string t.text,.int .i64 t.cols,v] 24)):=(Below.refl _ _).alloc (Nat.le_refl _) _
 have hv':=hv.below hb0 hb0.size
 go_enter Tryz.func13,Tryz.ntmps13
 go_wp2_with fail
 refine (left_any t _ v m hv' h0 h1).mono ?_
 rintro e w1 ⟨rfl,hb1⟩
 go_wp2_with fail
 go_ret
 exact ⟨rfl,hb0.trans (hb1.mono (by simp))⟩
mutual
def countS:Tree→Nat
 | .mk _ _ _ ts=>1 + countsS ts
def countsS:List Tree→Nat
 | []=>0
 | t :: ts=>countS t + countsS ts
end
mutual
def depthS:Tree→Nat
 | .mk _ _ _ ts=>depthsS ts + 1
def depthsS:List Tree→Nat
 | []=>0
 | t :: ts=>max (depthS t) (depthsS ts)
end
theorem countsS_append (xs ys:List Tree):countsS (xs ++ ys) = countsS xs + countsS ys:=by
 induction xs with
 | nil=>simp [countsS]
 | cons x xs ih=>simp [countsS,ih];omega
theorem depthsS_append (xs ys:List Tree):depthsS (xs ++ ys) = max (depthsS xs) (depthsS ys):=by
 induction xs with
 | nil=>simp [depthsS]
 | cons x xs ih=>simp only [depthsS,ih,List.cons_append];omega
theorem countsS_take {ts:List Tree} {k:Nat} (h:k < ts.length):countsS (ts.take (k + 1)) = countsS (ts.take k) + countS ts[k]:=by
 rw [List.take_succ_eq_append_getElem h,countsS_append];simp [countsS]
theorem depthsS_take {ts:List Tree} {k:Nat} (h:k < ts.length):depthsS (ts.take (k + 1)) = max (depthsS (ts.take k)) (depthS ts[k]):=by
 rw [List.take_succ_eq_append_getElem h,depthsS_append];simp [depthsS]
theorem countsS_take_le (ts:List Tree) (k:Nat):countsS (ts.take k)≤countsS ts:=by
 conv=>rhs;rw [← List.take_append_drop k ts,countsS_append]
 omega
mutual
theorem depth_le_count:(t:Tree)→depthS t≤countS t
 | .mk _ _ _ ts=>by unfold depthS countS;have:=depths_le_counts ts;omega
theorem depths_le_counts:(ts:List Tree)→depthsS ts≤countsS ts
 | []=>by simp [depthsS]
 | t :: ts=>by unfold depthsS countsS;have:=depth_le_count t;have:=depths_le_counts ts;omega
end
set_option maxHeartbeats 400000 in
theorem count_any (t:Tree):∀ (w:World) (v:Value) (_:SliceR treeE w (Lt w.heap.size) t.kids v) (_:countS t≤1000000000),
  Calls Tryz.prog 66 #[.agg #[.int .i64 t.kind,.string t.text,.int .i64 t.cols,v]] w fun e w'=>e = .returned (.int .i64 (countS t))∧Below w.heap.size w w':=by
 induction t using Tree.ind with
 | h t ih =>
 obtain ⟨tk,tx,tc,ts⟩:=t
 intro w v hv hm
 simp only [Tree.kind,Tree.text,Tree.cols,Tree.kids] at *
 obtain ⟨A,cap,rs,rfl,hcap,hmax,hrd,hls⟩:=hv
 unfold maxLen at hmax
 have hlen:ts.length≤9223372036854775807:=by omega
 have H:Hid (Reads w (Lt w.heap.size) A rs∧ListR treeE w (Lt w.heap.size) ts rs):=⟨hrd,hls⟩
 have HC:Hid (countS (.mk tk tx tc ts) = 1 + countsS ts):=by show _ = _;rw [countS]
 rw [HC.out] at hm
 clear hrd hls
 go_enter Tryz.func66,Tryz.ntmps66
 go_wp2
 go_loopw [3,4] (fun o i wr=>Below w.heap.size w wr∧wr.cell? ⟨w.heap.size,3,none⟩ = some (.slice A ts.length cap)∧w.heap.size < wr.heap.size∧∃ (k:Nat),k≤ts.length∧i = .int .i64 k∧o = .int .i64 ((1 + countsS (ts.take k):Nat):Int)) (fun _ i _=>ts.length - (intOf i).toNat)
 case atStart=>exact ⟨(Below.refl _ _).alloc (Nat.le_refl _) _,World.cell?_alloc_new _ _ _ _,by simp,0,Nat.zero_le _,rfl,rfl⟩
 case round =>
  obtain ⟨hb,hs,hz,k,hk,rfl,rfl⟩:=hrel
  have hle:=countsS_take_le ts k
  by_cases hlt:k < ts.length
  ·obtain ⟨g,o,A',cap',rs',rfl,hg,c0,c1,c2,c3,_,_,_,hc5,hc6,hrd',hls'⟩:=trees_at (H.out.1.keep (Same.of_below hb (Nat.le_refl _)) (Lt.mono hb.size)) (H.out.2.keep (Same.of_below hb (Nat.le_refl _)) (Lt.mono hb.size)) hlt
   have hmem:ts[k] ∈ ts:=List.getElem_mem hlt
   have hle2:=countsS_take_le ts (k + 1)
   have HT:=hid (countsS_take hlt)
   rw [HT.out] at hle2
   have hv':SliceR treeE wr (Lt wr.heap.size) ts[k].kids (.slice A' ts[k].kids.length cap'):=⟨A',cap',rs',rfl,hc5,hc6,hrd',hls'⟩
   go_wp2_with fail
   refine (ih ts[k] hmem wr _ hv' (by omega)).mono ?_
   rintro e w1 ⟨rfl,hb1⟩
   have hs1:w1.cell? ⟨w.heap.size,3,none⟩ = some (.slice (some ⟨g,o,none⟩) ts.length cap):=((bcell hb1).1 _ _ hz).trans hs
   clear hv' hrd' hls' c0 c1 c2 c3 hs
   go_wp2_with fail
   go_roundw
   case rel=>exact ⟨hb.trans (hb1.mono hb.size),hs1,by have:=hb1.size;omega,k + 1,by omega,by go_num,by rw [HT.out];go_num⟩
   case measure=>simp [intOf];omega
  ·have HT:Hid (ts.take k = ts):=List.take_of_length_le (by omega)
   rw [HT.out]
   have HB:=hid hb
   clear hb
   go_wp2_with fail
   go_ret
   exact ⟨by rw [HC.out];rfl,HB.out⟩
set_option maxHeartbeats 400000 in
theorem depth_any (t:Tree):∀ (w:World) (v:Value) (_:SliceR treeE w (Lt w.heap.size) t.kids v) (_:countS t≤1000000000),
  Calls Tryz.prog 67 #[.agg #[.int .i64 t.kind,.string t.text,.int .i64 t.cols,v]] w fun e w'=>e = .returned (.int .i64 (depthS t))∧Below w.heap.size w w':=by
 induction t using Tree.ind with
 | h t ih =>
 obtain ⟨tk,tx,tc,ts⟩:=t
 intro w v hv hm
 simp only [Tree.kind,Tree.text,Tree.cols,Tree.kids] at *
 obtain ⟨A,cap,rs,rfl,hcap,hmax,hrd,hls⟩:=hv
 unfold maxLen at hmax
 have hlen:ts.length≤9223372036854775807:=by omega
 have H:Hid (Reads w (Lt w.heap.size) A rs∧ListR treeE w (Lt w.heap.size) ts rs):=⟨hrd,hls⟩
 have HC:Hid (depthS (.mk tk tx tc ts) = depthsS ts + 1):=by show _ = _;rw [depthS]
 have hcs:countsS ts≤1000000000:=by rw [countS] at hm;omega
 clear hrd hls hm
 go_enter Tryz.func67,Tryz.ntmps67
 go_wp2
 go_loopw [3,4] (fun o i wr=>Below w.heap.size w wr∧wr.cell? ⟨w.heap.size,3,none⟩ = some (.slice A ts.length cap)∧w.heap.size < wr.heap.size∧∃ (k:Nat),k≤ts.length∧i = .int .i64 k∧o = .int .i64 ((depthsS (ts.take k):Nat):Int)) (fun _ i _=>ts.length - (intOf i).toNat)
 case atStart=>exact ⟨(Below.refl _ _).alloc (Nat.le_refl _) _,World.cell?_alloc_new _ _ _ _,by simp,0,Nat.zero_le _,rfl,rfl⟩
 case round =>
  obtain ⟨hb,hs,hz,k,hk,rfl,rfl⟩:=hrel
  have hle:=countsS_take_le ts k
  have hld:=depths_le_counts (ts.take k)
  by_cases hlt:k < ts.length
  ·obtain ⟨g,o,A',cap',rs',rfl,hg,c0,c1,c2,c3,_,_,_,hc5,hc6,hrd',hls'⟩:=trees_at (H.out.1.keep (Same.of_below hb (Nat.le_refl _)) (Lt.mono hb.size)) (H.out.2.keep (Same.of_below hb (Nat.le_refl _)) (Lt.mono hb.size)) hlt
   have hmem:ts[k] ∈ ts:=List.getElem_mem hlt
   have hle2:=countsS_take_le ts (k + 1)
   have hct:=countsS_take hlt
   have HT:=hid (depthsS_take hlt)
   have hkc:countS ts[k]≤1000000000:=by omega
   have hdk:=depth_le_count ts[k]
   have hv':SliceR treeE wr (Lt wr.heap.size) ts[k].kids (.slice A' ts[k].kids.length cap'):=⟨A',cap',rs',rfl,hc5,hc6,hrd',hls'⟩
   clear hct hle2
   go_wp2_with fail
   refine (ih ts[k] hmem wr _ hv' hkc).mono ?_
   rintro e w1 ⟨rfl,hb1⟩
   have hs1:w1.cell? ⟨w.heap.size,3,none⟩ = some (.slice (some ⟨g,o,none⟩) ts.length cap):=((bcell hb1).1 _ _ hz).trans hs
   clear hv' hrd' hls' c0 c1 c2 c3 hs
   rcases Nat.lt_or_ge (depthsS (ts.take k)) (depthS ts[k]) with hd | hd
   ·have HM:Hid (max (depthsS (ts.take k)) (depthS ts[k]) = depthS ts[k]):=by show _ = _;omega
    go_wp2_with fail
    go_roundw
    case rel=>exact ⟨hb.trans (hb1.mono hb.size),hs1,by have:=hb1.size;omega,k + 1,by omega,by go_num,by first | (rw [HT.out,HM.out];done) | (rw [HT.out];have h9:=HM.out;simp only [Value.int.injEq,true_and];omega)⟩
    case measure=>simp [intOf];omega
   ·have HM:Hid (max (depthsS (ts.take k)) (depthS ts[k]) = depthsS (ts.take k)):=by show _ = _;omega
    go_wp2_with fail
    go_roundw
    case rel=>exact ⟨hb.trans (hb1.mono hb.size),hs1,by have:=hb1.size;omega,k + 1,by omega,by go_num,by first | (rw [HT.out,HM.out];done) | (rw [HT.out];have h9:=HM.out;simp only [Value.int.injEq,true_and];omega)⟩
    case measure=>simp [intOf];omega
  ·have HT:Hid (ts.take k = ts):=List.take_of_length_le (by omega)
   rw [HT.out]
   have HB:=hid hb
   rw [HT.out] at hld
   clear hb
   go_wp2_with fail
   go_ret
   exact ⟨by rw [HC.out];first | rfl | (simp;done),HB.out⟩
end Go.Proofs.YtbjcioknfjofkaaGreat
