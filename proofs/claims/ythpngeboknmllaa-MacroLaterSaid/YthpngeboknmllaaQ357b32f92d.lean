/- Texts put together. -/
import Derived.Test.YthpngeboknmllaaQc887edb4c0
import Derived.Test.YthpngeboknmllaaQ6a6d851a31
import Derived.Laws.Tables
import Derived.Laws.Rows
set_option linter.unusedVariables false
set_option linter.unusedSimpArgs false
set_option maxRecDepth 100000
namespace Go.Proofs.Ythpngeboknmllaa
open Go.RowKit
def kindsC:Array Value:=#[.string ⟨#[]⟩,.int .i64 0,.nilFunc,.string ⟨#[114,111,119]⟩,.int .i64 0,.func (.func 50) #[] #[],.string ⟨#[115,121,109]⟩,.int .i64 0,.func (.func 16) #[] #[],.string ⟨#[110,117,109]⟩,.int .i64 0,.func (.func 51) #[] #[],.string ⟨#[116,101,120,116]⟩,.int .i64 0,.func (.func 52) #[] #[],.string ⟨#[102,114,97,99]⟩,.int .i64 2,.func (.func 50) #[] #[],.string ⟨#[114,111,111,116]⟩,.int .i64 2,.func (.func 50) #[] #[],.string ⟨#[115,117,98]⟩,.int .i64 2,.func (.func 50) #[] #[],.string ⟨#[115,117,112]⟩,.int .i64 2,.func (.func 50) #[] #[],.string ⟨#[98,111,116,104]⟩,.int .i64 3,.func (.func 50) #[] #[],.string ⟨#[97,99,99,101,110,116]⟩,.int .i64 1,.func (.func 28) #[] #[],.string ⟨#[102,101,110,99,101]⟩,.int .i64 1,.func (.func 53) #[] #[],.string ⟨#[109,97,116,114,105,120]⟩,.int .i64 0,.func (.func 50) #[] #[]]
def chkC:Array Value:=#[.string ⟨#[]⟩,.int .i64 0,.nilFunc,.string ⟨#[114,111,119]⟩,.int .i64 0,.func (.func 50) #[] #[],.string ⟨#[115,121,109]⟩,.int .i64 0,.func (.func 16) #[] #[],.string ⟨#[110,117,109]⟩,.int .i64 0,.func (.func 51) #[] #[],.string ⟨#[116,101,120,116]⟩,.int .i64 0,.func (.func 52) #[] #[],.string ⟨#[102,114,97,99]⟩,.int .i64 2,.func (.func 50) #[] #[],.string ⟨#[114,111,111,116]⟩,.int .i64 2,.func (.func 50) #[] #[],.string ⟨#[115,117,98]⟩,.int .i64 2,.func (.func 50) #[] #[],.string ⟨#[115,117,112]⟩,.int .i64 2,.func (.func 50) #[] #[],.string ⟨#[98,111,116,104]⟩,.int .i64 3,.func (.func 50) #[] #[],.string ⟨#[97,99,99,101,110,116]⟩,.int .i64 1,.func (.func 28) #[] #[],.string ⟨#[102,101,110,99,101]⟩,.int .i64 1,.func (.func 53) #[] #[],.string ⟨#[109,97,116,114,105,120]⟩,.int .i64 0,.func (.func 50) #[] #[],.int .i64 0]
theorem wpList_build_at {P:Program} {ops:Array Oper} {rest:List Oper} {o:Oper} {a:Act} {w:World} {Q:Exit→Act→World→Prop} (hg:o.guard = none) (t:TypeId) (parts:Array (Nat × Operand)) (ho:o.op = .build t parts)
  (cells:Array Value) (hf:P.built t (parts.map fun (i,x)=>(i,a.eval x)).toList = some cells)
  (h:wpList P ops Q rest (a.put o.dst (.agg cells)) w):wpList P ops Q (o :: rest) a w :=
 wpList_build hg t parts ho (by rw [hf];rfl) (by rw [hf];exact h)
theorem below_row (w:World) (old cs:Array Value) (t:TypeId):Below w.heap.size w ((w.alloc (.cells old t)).setRow w.heap.size cs) :=
 ⟨rfl,rfl,rfl,by simp,fun k hk=>by rw [setRow_other _ _ _ _ (by omega)];exact heap_alloc_old _ _ hk⟩
set_option maxHeartbeats 1000000 in
theorem kinds_any (w:World):Calls Try.prog 42 #[] w fun e w'=>e = .returned (.agg kindsC)∧Below w.heap.size w w':=by
 go_enter Try.func42,Try.ntmps42
 go_wp2_with (first
  | (refine wpList_build_at rfl 79 _ rfl kindsC (by kernel_rfl) ?_)
  | (refine wpList_store_row rfl 79 (.tmp 0) (.tmp 13) rfl w.heap.size kindsC rfl rfl 79 _ (heap_alloc_new w _) (by kernel_rfl) (by kernel_rfl) (by kernel_rfl) ?_))
 exact bodyPost_ret (v:=.agg kindsC) (results_cell_row Try.results42 _ _ w.heap.size 79 kindsC (0,0) _ rfl (setRow_heap _ _ _ _ _ _ (heap_alloc_new w _)) Try.underlying79 rfl (by kernel_rfl)) rfl ⟨rfl,below_row w _ _ _⟩
theorem chk_new (w:World) (e:TypeId):Chk (w.alloc (.cells chkC e)) w.heap.size 0:=by
 unfold Chk Cells
 simp only [World.cell?_alloc_new]
 refine ⟨?_,by kernel_rfl,World.frozen?_alloc_new _ _ _ _⟩
 refine ⟨⟨by kernel_rfl,by kernel_rfl⟩,⟨by kernel_rfl,by kernel_rfl⟩,⟨by kernel_rfl,by kernel_rfl⟩,⟨by kernel_rfl,by kernel_rfl⟩,⟨by kernel_rfl,by kernel_rfl⟩,⟨by kernel_rfl,by kernel_rfl⟩,⟨by kernel_rfl,by kernel_rfl⟩,⟨by kernel_rfl,by kernel_rfl⟩,⟨by kernel_rfl,by kernel_rfl⟩,⟨by kernel_rfl,by kernel_rfl⟩,⟨by kernel_rfl,by kernel_rfl⟩,⟨by kernel_rfl,by kernel_rfl⟩⟩
theorem validS_ok (t:Tree):validS t = ((t.kind == 1) && okS t 0 1):=by
 unfold validS
 rw [okS_eq,Bool.eq_iff_iff]
 simp only [Bool.and_eq_true,decide_eq_true_eq]
 constructor
 ·rintro ⟨⟨⟨a,b⟩,c⟩,d⟩;exact ⟨a,b,by omega,by omega⟩
 ·rintro ⟨a,b,c,d⟩;exact ⟨⟨⟨a,b⟩,by omega⟩,by omega⟩
set_option maxHeartbeats 1000000 in
theorem nValid_any (t:Tree) (A:Option Addr) (cap:Nat) (w:World) (hv:SliceR treeE w (Lt w.heap.size) t.kids (.slice A t.kids.length cap)) (htx:t.text.size≤maxLen) :
  Calls Try.prog 30 #[.agg #[.int .i64 t.kind,.string t.text,.int .i64 t.cols,.slice A t.kids.length cap]] w fun e w'=>e = .returned (.bool (validS t))∧Below w.heap.size w w':=by
 have HV:=hid (validS_ok t)
 have HCH:Hid (∀ W,Below (w.alloc (Obj.cells #[.int .i64 t.kind,.string t.text,.int .i64 t.cols,.slice A t.kids.length cap] 31)).heap.size (w.alloc (Obj.cells #[.int .i64 t.kind,.string t.text,.int .i64 t.cols,.slice A t.kids.length cap] 31)) W →
   Calls Try.prog 43 #[.pointer (some ⟨W.heap.size,0,none⟩),.pointer (some ⟨w.heap.size,0,none⟩),.int .i64 1] (W.alloc (.cells chkC 82)) fun e w'=>e = .returned (.bool (okS t 0 1))∧Below w.heap.size w w'):=by
  intro W hW
  have hb0:Below w.heap.size w (w.alloc (Obj.cells #[.int .i64 t.kind,.string t.text,.int .i64 t.cols,.slice A t.kids.length cap] 31)):=(Below.refl _ _).alloc (Nat.le_refl _) _
  have hbW:Below w.heap.size w W:=hb0.trans (hW.mono hb0.size)
  have hz:w.heap.size < W.heap.size:=by have:=hW.size;simp at this;omega
  have hbA:Below W.heap.size W (W.alloc (.cells chkC 82)):=(Below.refl _ _).alloc (Nat.le_refl _) _
  obtain ⟨_,_,rs,hq,h1,h2,h3,h4⟩:=hv.below hbW hbW.size
  cases hq
  have hn:NodeAt W (Lt W.heap.size) w.heap.size 0 t A cap rs:=by
   obtain ⟨n0,n1,n2,n3⟩:=(NBox.new w t.kind t.cols t.text (.slice A t.kids.length cap)).below hW (by simp)
   exact ⟨⟨n0,n1,n2,n3⟩,hz,htx,h1,h2,h3,h4⟩
  refine (chk_any t _ W.heap.size w.heap.size 0 A cap rs 0 1 (hn.below hbA) (chk_new W _) (by omega) (by omega)).mono ?_
  rintro e w' ⟨he,hb,_⟩
  exact ⟨he,hbW.trans ((hbA.trans hb).mono hbW.size)⟩
 have HB0:Hid (Below w.heap.size w (w.alloc (Obj.cells #[.int .i64 t.kind,.string t.text,.int .i64 t.cols,.slice A t.kids.length cap] 31))):=(Below.refl _ _).alloc (Nat.le_refl _) _
 have KB:Hid (∀ W,Below (w.alloc (Obj.cells #[.int .i64 t.kind,.string t.text,.int .i64 t.cols,.slice A t.kids.length cap] 31)).heap.size (w.alloc (Obj.cells #[.int .i64 t.kind,.string t.text,.int .i64 t.cols,.slice A t.kids.length cap] 31)) W→W.cell? ⟨w.heap.size,0,none⟩ = some (.int .i64 t.kind)∧w.heap.size < W.heap.size) :=
  fun W hW=>⟨((NBox.new w t.kind t.cols t.text (.slice A t.kids.length cap)).below hW (by simp)).1,by have:=hW.size;simp at this;omega⟩
 rw [HV.out]
 clear hv htx HV
 generalize okS t 0 1 = b at *
 obtain ⟨tk,tx,tc,ts⟩:=t
 simp only [Tree.kind,Tree.text,Tree.cols,Tree.kids] at *
 cases h1:(tk == 1)
 ·go_enter Try.func30,Try.ntmps30
  go_wp2_with fail
  refine (kinds_any _).mono ?_
  rintro e w1 ⟨rfl,hb1⟩
  have HB1:=hid (HB0.out.trans (hb1.mono HB0.out.size))
  obtain ⟨q0,z0⟩:=KB.out w1 hb1
  clear hb1
  go_wp2_with (refine wpList_build_at rfl 82 _ rfl chkC (by kernel_rfl) ?_)
  go_ret
  exact ⟨rfl,HB1.out.trans ((Below.refl _ _).alloc HB1.out.size _)⟩
 ·go_enter Try.func30,Try.ntmps30
  go_wp2_with fail
  refine (kinds_any _).mono ?_
  rintro e w1 ⟨rfl,hb1⟩
  have HCC:=hid (HCH.out w1 hb1)
  obtain ⟨q0,z0⟩:=KB.out w1 hb1
  clear hb1
  go_wp2_with (first | (refine wpList_build_at rfl 82 _ rfl chkC (by kernel_rfl) ?_) | (go_at_call 43;refine HCC.out.mono ?_;rintro e w2 ⟨rfl,hb2⟩;have HB2:=hid hb2;clear hb2))
  go_ret
  exact ⟨rfl,HB2.out⟩
end Go.Proofs.Ythpngeboknmllaa
