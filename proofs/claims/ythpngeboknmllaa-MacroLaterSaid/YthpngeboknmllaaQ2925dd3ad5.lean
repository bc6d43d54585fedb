/- Texts put together. -/
import Derived.Test.YthpngeboknmllaaQ86ac3e52b5
set_option linter.unusedVariables false
set_option linter.unusedSimpArgs false
namespace Go.Proofs.Ythpngeboknmllaa
open Go.RowKit
mutual
def countS:Tree→Nat
 | .mk _ _ _ ts=>1 + countsS ts
def countsS:List Tree→Nat
 | []=>0
 | t :: ts=>countS t + countsS ts
end
mutual
def depthS:Tree→Nat
 | .mk _ _ _ ts=>depthsS ts + 1
def depthsS:List Tree→Nat
 | []=>0
 | t :: ts=>max (depthS t) (depthsS ts)
end
theorem countsS_append (xs ys:List Tree):countsS (xs ++ ys) = countsS xs + countsS ys:=by
 induction xs with
 | nil=>simp [countsS]
 | cons x xs ih=>simp [countsS,ih];omega
theorem depthsS_append (xs ys:List Tree):depthsS (xs ++ ys) = max (depthsS xs) (depthsS ys):=by
 induction xs with
 | nil=>simp [depthsS]
 | cons x xs ih=>simp only [depthsS,ih,List.cons_append];omega
theorem countsS_take {ts:List Tree} {k:Nat} (h:k < ts.length):countsS (ts.take (k + 1)) = countsS (ts.take k) + countS ts[k]:=by
 rw [List.take_succ_eq_append_getElem h,countsS_append];simp [countsS]
theorem depthsS_take {ts:List Tree} {k:Nat} (h:k < ts.length):depthsS (ts.take (k + 1)) = max (depthsS (ts.take k)) (depthS ts[k]):=by
 rw [List.take_succ_eq_append_getElem h,depthsS_append];simp [depthsS]
theorem countsS_take_le (ts:List Tree) (k:Nat):countsS (ts.take k)≤countsS ts:=by
 conv=>rhs;rw [← List.take_append_drop k ts,countsS_append]
 omega
mutual
theorem depth_le_count:(t:Tree)→depthS t≤countS t
 | .mk _ _ _ ts=>by unfold depthS countS;have:=depths_le_counts ts;omega
theorem depths_le_counts:(ts:List Tree)→depthsS ts≤countsS ts
 | []=>by simp [depthsS]
 | t :: ts=>by unfold depthsS countsS;have:=depth_le_count t;have:=depths_le_counts ts;omega
end
set_option maxHeartbeats 400000 in
theorem count_any (t:Tree):∀ (w:World) (v:Value) (_:SliceR treeE w (Lt w.heap.size) t.kids v) (_:countS t≤1000000000),
  Calls Try.prog 46 #[.agg #[.int .i64 t.kind,.string t.text,.int .i64 t.cols,v]] w fun e w'=>e = .returned (.int .i64 (countS t))∧Below w.heap.size w w':=by
 induction t using Tree.ind with
 | h t ih =>
 obtain ⟨tk,tx,tc,ts⟩:=t
 intro w v hv hm
 simp only [Tree.kind,Tree.text,Tree.cols,Tree.kids] at *
 obtain ⟨A,cap,rs,rfl,hcap,hmax,hrd,hls⟩:=hv
 unfold maxLen at hmax
 have hlen:ts.length≤9223372036854775807:=by omega
 have H:Hid (Reads w (Lt w.heap.size) A rs∧ListR treeE w (Lt w.heap.size) ts rs):=⟨hrd,hls⟩
 have HC:Hid (countS (.mk tk tx tc ts) = 1 + countsS ts):=by show _ = _;rw [countS]
 rw [HC.out] at hm
 clear hrd hls
 go_enter Try.func46,Try.ntmps46
 go_wp2
 go_loopw [3,4] (fun o i wr=>Below w.heap.size w wr∧wr.cell? ⟨w.heap.size,3,none⟩ = some (.slice A ts.length cap)∧w.heap.size < wr.heap.size∧∃ (k:Nat),k≤ts.length∧i = .int .i64 k∧o = .int .i64 ((1 + countsS (ts.take k):Nat):Int)) (fun _ i _=>ts.length - (intOf i).toNat)
 case atStart=>exact ⟨(Below.refl _ _).alloc (Nat.le_refl _) _,World.cell?_alloc_new _ _ _ _,by simp,0,Nat.zero_le _,rfl,rfl⟩
 case round =>
  obtain ⟨hb,hs,hz,k,hk,rfl,rfl⟩:=hrel
  have hle:=countsS_take_le ts k
  by_cases hlt:k < ts.length
  ·obtain ⟨g,o,A',cap',rs',rfl,hg,c0,c1,c2,c3,_,_,_,hc5,hc6,hrd',hls'⟩:=trees_at (H.out.1.keep (Same.of_below hb (Nat.le_refl _)) (Lt.mono hb.size)) (H.out.2.keep (Same.of_below hb (Nat.le_refl _)) (Lt.mono hb.size)) hlt
   have hmem:ts[k] ∈ ts:=List.getElem_mem hlt
   have hle2:=countsS_take_le ts (k + 1)
   have HT:=hid (countsS_take hlt)
   rw [HT.out] at hle2
   have hv':SliceR treeE wr (Lt wr.heap.size) ts[k].kids (.slice A' ts[k].kids.length cap'):=⟨A',cap',rs',rfl,hc5,hc6,hrd',hls'⟩
   go_wp2_with fail
   refine (ih ts[k] hmem wr _ hv' (by omega)).mono ?_
   rintro e w1 ⟨rfl,hb1⟩
   have hs1:w1.cell? ⟨w.heap.size,3,none⟩ = some (.slice (some ⟨g,o,none⟩) ts.length cap):=((bcell hb1).1 _ _ hz).trans hs
   clear hv' hrd' hls' c0 c1 c2 c3 hs
   go_wp2_with fail
   go_roundw
   case rel=>exact ⟨hb.trans (hb1.mono hb.size),hs1,by have:=hb1.size;omega,k + 1,by omega,by go_num,by rw [HT.out];go_num⟩
   case measure=>simp [intOf];omega
  ·have HT:Hid (ts.take k = ts):=List.take_of_length_le (by omega)
   rw [HT.out]
   have HB:=hid hb
   clear hb
   go_wp2_with fail
   go_ret
   exact ⟨by rw [HC.out];rfl,HB.out⟩
end Go.Proofs.Ythpngeboknmllaa
