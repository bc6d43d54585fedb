/- Texts put together. -/
import Derived.Test.YthpngeboknmllaaQ2925dd3ad5
set_option linter.unusedVariables false
set_option linter.unusedSimpArgs false
namespace Go.Proofs.Ythpngeboknmllaa
open Go.RowKit
set_option maxHeartbeats 400000 in
theorem depth_any (t:Tree):∀ (w:World) (v:Value) (_:SliceR treeE w (Lt w.heap.size) t.kids v) (_:countS t≤1000000000),
  Calls Try.prog 47 #[.agg #[.int .i64 t.kind,.string t.text,.int .i64 t.cols,v]] w fun e w'=>e = .returned (.int .i64 (depthS t))∧Below w.heap.size w w':=by
 induction t using Tree.ind with
 | h t ih =>
 obtain ⟨tk,tx,tc,ts⟩:=t
 intro w v hv hm
 simp only [Tree.kind,Tree.text,Tree.cols,Tree.kids] at *
 obtain ⟨A,cap,rs,rfl,hcap,hmax,hrd,hls⟩:=hv
 unfold maxLen at hmax
 have hlen:ts.length≤9223372036854775807:=by omega
 have H:Hid (Reads w (Lt w.heap.size) A rs∧ListR treeE w (Lt w.heap.size) ts rs):=⟨hrd,hls⟩
 have HC:Hid (depthS (.mk tk tx tc ts) = depthsS ts + 1):=by show _ = _;rw [depthS]
 have hcs:countsS ts≤1000000000:=by rw [countS] at hm;omega
 clear hrd hls hm
 go_enter Try.func47,Try.ntmps47
 go_wp2
 go_loopw [3,4] (fun o i wr=>Below w.heap.size w wr∧wr.cell? ⟨w.heap.size,3,none⟩ = some (.slice A ts.length cap)∧w.heap.size < wr.heap.size∧∃ (k:Nat),k≤ts.length∧i = .int .i64 k∧o = .int .i64 ((depthsS (ts.take k):Nat):Int)) (fun _ i _=>ts.length - (intOf i).toNat)
 case atStart=>exact ⟨(Below.refl _ _).alloc (Nat.le_refl _) _,World.cell?_alloc_new _ _ _ _,by simp,0,Nat.zero_le _,rfl,rfl⟩
 case round =>
  obtain ⟨hb,hs,hz,k,hk,rfl,rfl⟩:=hrel
  have hle:=countsS_take_le ts k
  have hld:=depths_le_counts (ts.take k)
  by_cases hlt:k < ts.length
  ·obtain ⟨g,o,A',cap',rs',rfl,hg,c0,c1,c2,c3,_,_,_,hc5,hc6,hrd',hls'⟩:=trees_at (H.out.1.keep (Same.of_below hb (Nat.le_refl _)) (Lt.mono hb.size)) (H.out.2.keep (Same.of_below hb (Nat.le_refl _)) (Lt.mono hb.size)) hlt
   have hmem:ts[k] ∈ ts:=List.getElem_mem hlt
   have hle2:=countsS_take_le ts (k + 1)
   have hct:=countsS_take hlt
   have HT:=hid (depthsS_take hlt)
   have hkc:countS ts[k]≤1000000000:=by omega
   have hdk:=depth_le_count ts[k]
   have hv':SliceR treeE wr (Lt wr.heap.size) ts[k].kids (.slice A' ts[k].kids.length cap'):=⟨A',cap',rs',rfl,hc5,hc6,hrd',hls'⟩
   clear hct hle2
   go_wp2_with fail
   refine (ih ts[k] hmem wr _ hv' hkc).mono ?_
   rintro e w1 ⟨rfl,hb1⟩
   have hs1:w1.cell? ⟨w.heap.size,3,none⟩ = some (.slice (some ⟨g,o,none⟩) ts.length cap):=((bcell hb1).1 _ _ hz).trans hs
   clear hv' hrd' hls' c0 c1 c2 c3 hs
   rcases Nat.lt_or_ge (depthsS (ts.take k)) (depthS ts[k]) with hd | hd
   ·have HM:Hid (max (depthsS (ts.take k)) (depthS ts[k]) = depthS ts[k]):=by show _ = _;omega
    go_wp2_with fail
    go_roundw
    case rel=>exact ⟨hb.trans (hb1.mono hb.size),hs1,by have:=hb1.size;omega,k + 1,by omega,by go_num,by first | (rw [HT.out,HM.out];done) | (rw [HT.out];have h9:=HM.out;simp only [Value.int.injEq,true_and];omega)⟩
    case measure=>simp [intOf];omega
   ·have HM:Hid (max (depthsS (ts.take k)) (depthS ts[k]) = depthsS (ts.take k)):=by show _ = _;omega
    go_wp2_with fail
    go_roundw
    case rel=>exact ⟨hb.trans (hb1.mono hb.size),hs1,by have:=hb1.size;omega,k + 1,by omega,by go_num,by first | (rw [HT.out,HM.out];done) | (rw [HT.out];have h9:=HM.out;simp only [Value.int.injEq,true_and];omega)⟩
    case measure=>simp [intOf];omega
  ·have HT:Hid (ts.take k = ts):=List.take_of_length_le (by omega)
   rw [HT.out]
   have HB:=hid hb
   rw [HT.out] at hld
   clear hb
   go_wp2_with fail
   go_ret
   exact ⟨by rw [HC.out];first | rfl | (simp;done),HB.out⟩
end Go.Proofs.Ythpngeboknmllaa
