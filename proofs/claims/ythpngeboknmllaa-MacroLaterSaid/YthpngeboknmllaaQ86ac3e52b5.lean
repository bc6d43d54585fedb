/- Texts put together. -/
import Derived.Test.YthpngeboknmllaaQe06f35c01b
import Derived.Deep.QuietTactic
import Derived.BigQuiet
set_option linter.unusedVariables false
set_option linter.unusedSimpArgs false
namespace Go.Proofs.Ythpngeboknmllaa
open Go.RowKit
theorem Tree.ind {P : Tree → Prop} (h : ∀ t : Tree, (∀ k ∈ t.kids, P k) → P t) : ∀ t, P t := by
  intro t
  have : ∀ (n : Nat) (t : Tree), SizeOf.sizeOf t ≤ n → P t := by
    intro n
    induction n with
    | zero => intro t ht; cases t; simp at ht
    | succ n ih =>
      intro t ht
      refine h t fun k hk => ih k ?_
      cases t with
      | mk a b c ts =>
        have := List.sizeOf_lt_of_mem (show k ∈ ts from hk)
        simp at ht; omega
  exact this _ t (Nat.le_refl _)
mutual
def leftS:Tree→Int→Int
 | .mk _ _ _ ts,m=>leftsS ts (m - 1)
def leftsS:List Tree→Int→Int
 | [],m=>m
 | t :: ts,m=>if 0≤m then leftsS ts (leftS t m) else m
end
mutual
theorem leftS_bd : (t : Tree) → (m : Int) → 0 ≤ m → -1 ≤ leftS t m ∧ leftS t m ≤ m - 1
  | .mk _ _ _ ts, m, h => by
    unfold leftS
    exact leftsS_bd ts (m - 1) (by omega)
theorem leftsS_bd : (ts : List Tree) → (m : Int) → -1 ≤ m → -1 ≤ leftsS ts m ∧ leftsS ts m ≤ m
  | [], m, h => by simp [leftsS]; exact h
  | t :: ts, m, h => by
    unfold leftsS
    split
    · have h1 := leftS_bd t m (by omega)
      have h2 := leftsS_bd ts (leftS t m) h1.1
      omega
    · omega
end
set_option maxHeartbeats 400000 in
theorem left_any (t:Tree):∀ (w:World) (v:Value) (m:Int) (_:SliceR treeE w (Lt w.heap.size) t.kids v) (_:0≤m) (_:m≤1000000),
  Calls Try.prog 21 #[.agg #[.int .i64 t.kind,.string t.text,.int .i64 t.cols,v],.int .i64 m] w fun e w'=>e = .returned (.int .i64 (leftS t m))∧Below w.heap.size w w':=by
 induction t using Tree.ind with
 | h t ih =>
 obtain ⟨tk,tx,tc,ts⟩:=t
 intro w v m hv hm0 hm1
 simp only [Tree.kind,Tree.text,Tree.cols,Tree.kids] at *
 obtain ⟨A,cap,rs,rfl,hcap,hmax,hrd,hls⟩:=hv
 unfold maxLen at hmax
 have hlen:ts.length≤9223372036854775807:=by omega
 have H:Hid (Reads w (Lt w.heap.size) A rs∧ListR treeE w (Lt w.heap.size) ts rs):=⟨hrd,hls⟩
 clear hrd hls
 go_enter Try.func21,Try.ntmps21
 go_wp2
 go_loopw [1,5] (fun m' i wr=>Below w.heap.size w wr∧wr.cell? ⟨w.heap.size,3,none⟩ = some (.slice A ts.length cap)∧w.heap.size < wr.heap.size∧∃ (k:Nat) (n:Int),k≤ts.length∧i = .int .i64 k∧m' = .int .i64 n∧-1≤n∧n≤1000000∧leftsS (ts.drop k) n = leftsS ts (m - 1)) (fun _ i _=>ts.length - (intOf i).toNat)
 case atStart=>exact ⟨(Below.refl _ _).alloc (Nat.le_refl _) _,World.cell?_alloc_new _ _ _ _,by simp,0,m - 1,Nat.zero_le _,rfl,rfl,by omega,by omega,rfl⟩
 case round =>
  obtain ⟨hb,hs,hz,k,n,hk,rfl,rfl,hn0,hn1,hrest⟩:=hrel
  have HR:Hid (leftsS (ts.drop k) n = leftsS ts (m - 1)):=hrest
  clear hrest
  by_cases hlt:k < ts.length
  ·by_cases hn:0≤n
   ·obtain ⟨g,o,A',cap',rs',rfl,hg,c0,c1,c2,c3,_,_,_,hc5,hc6,hrd',hls'⟩:=trees_at (H.out.1.keep (Same.of_below hb (Nat.le_refl _)) (Lt.mono hb.size)) (H.out.2.keep (Same.of_below hb (Nat.le_refl _)) (Lt.mono hb.size)) hlt
    have hmem:ts[k] ∈ ts:=List.getElem_mem hlt
    have hbd:=leftS_bd ts[k] n hn
    have hv':SliceR treeE wr (Lt wr.heap.size) ts[k].kids (.slice A' ts[k].kids.length cap'):=⟨A',cap',rs',rfl,hc5,hc6,hrd',hls'⟩
    go_wp2_with fail
    refine (ih ts[k] hmem wr _ n hv' hn (by omega)).mono ?_
    rintro e w1 ⟨rfl,hb1⟩
    have hs1:w1.cell? ⟨w.heap.size,3,none⟩ = some (.slice (some ⟨g,o,none⟩) ts.length cap):=((bcell hb1).1 _ _ hz).trans hs
    clear hv' hrd' hls' c0 c1 c2 c3 hs
    go_wp2_with fail
    go_roundw
    case rel=>exact ⟨hb.trans (hb1.mono hb.size),hs1,by have:=hb1.size;omega,k + 1,_,by omega,by go_num,rfl,by omega,by omega,by rw [← HR.out,List.drop_eq_getElem_cons hlt,leftsS,if_pos hn]⟩
    case measure=>simp [intOf];omega
   ·have hd:leftsS (ts.drop k) n = n:=by rw [List.drop_eq_getElem_cons hlt,leftsS,if_neg hn]
    have HD:=hid (HR.out.symm.trans hd)
    clear hd
    go_wp2_with fail
    go_ret
    exact ⟨by rw [leftS,HD.out];rfl,hb⟩
  ·have hd:leftsS (ts.drop k) n = n:=by rw [List.drop_of_length_le (by omega),leftsS]
   have HD:=hid (HR.out.symm.trans hd)
   clear hd
   go_wp2_with fail
   go_ret
   exact ⟨by rw [leftS,HD.out];rfl,hb⟩
def fewS (t:Tree) (m:Int):Bool:=decide (0≤leftS t m)
set_option maxHeartbeats 400000 in
theorem few_any (t:Tree) (w:World) (v:Value) (m:Int) (hv:SliceR treeE w (Lt w.heap.size) t.kids v) (h0:0≤m) (h1:m≤1000000) :
  Calls Try.prog 13 #[.agg #[.int .i64 t.kind,.string t.text,.int .i64 t.cols,v],.int .i64 m] w fun e w'=>e = .returned (.bool (fewS t m))∧Below w.heap.size w w':=by
 have hb0:Below w.heap.size w (w.alloc (.cells #[.int .i64 t.kind,.string t.text,.int .i64 t.cols,v] 31)):=(Below.refl _ _).alloc (Nat.le_refl _) _
 have hv':=hv.below hb0 hb0.size
 go_enter Try.func13,Try.ntmps13
 go_wp2_with fail
 refine (left_any t _ v m hv' h0 h1).mono ?_
 rintro e w1 ⟨rfl,hb1⟩
 go_wp2_with fail
 go_ret
 exact ⟨rfl,hb0.trans (hb1.mono (by simp))⟩
end Go.Proofs.Ythpngeboknmllaa
