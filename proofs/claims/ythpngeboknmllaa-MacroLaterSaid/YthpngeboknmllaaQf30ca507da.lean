/- Texts put together. -/
import Derived.Test.YthpngeboknmllaaQ31c220761e
import Derived.Test.YthpngeboknmllaaQ073178cb8e
import Derived.Deep.RegionHeld3
import Derived.Laws.Rows
import Derived.Laws.Tables
import Derived.Laws.ResultCell
import Derived.KernelRfl
set_option linter.unusedVariables false
set_option linter.unusedSimpArgs false
namespace Go.Proofs.Ythpngeboknmllaa
open Go.RowKit
section
variable {ops:Array Oper} {Q:Exit→Act→World→Prop} {md:Region.Mode} {S:World→Prop}
theorem yifr {o:Oper} {a:Act} (ty:TypeId) (x:Operand) (ho:o.op = .load ty x) (hw:Region.wanted o (yielded ops a.tmps) = true) {g:Nat} (hx:a.eval x = .pointer (some ⟨g,0,none⟩)) {t:TypeId} {cs:Array Value} (hg:∀ w,S w→HasObj w g (.cells cs t)) {fs} (hu:Try.prog.underlying ty = some (.struct fs)) (hi:(Try.prog.info? ty).map (·.size) = some cs.size):YieldsIf Try.prog ops S o (.agg cs) a :=
 Or.inl ⟨hw,fun w hS=>by
  unfold execOp
  simp only [ho,hx,Instr.loadAt,Instr.sureAddr,Sem.run_bind,Sem.run_pure,Result.andThen_ok,run_loadVar_row w g t ty cs (0,0) (.struct fs) (hg w hS) hu rfl hi]⟩
theorem tk (i d:Nat) {o1:Op} {o2:TypeId} {o3:String} {o4:Array Edge} {o5:Option (Nat × Bool)} {v:Value} {fuel:Nat} {listed l':Array Bool} {a a':Act} {w:World}
  (hi:ops[i]? = some ⟨some d,o1,o2,o3,o4,o5⟩) (h:wpAnyH Try.prog md ops (NoPanic Q) S fuel l' a' w)
  (hS:S w:=by assumption) (hs:Region.noSelect ops = true:=by kernel_rfl) (hf:Region.free md ops listed i = true:=by kernel_rfl) (hr:(Region.ready md ops listed).contains i = true:=by kernel_rfl)
  (hy:YieldsIf Try.prog ops S ⟨some d,o1,o2,o3,o4,o5⟩ v a:=by exact Or.inl ⟨by rfl,fun W hS=>by clear hS;go_simp;try with_reducible rfl⟩)
  (hl:listed.setIfInBounds i true = l':=by first | (simp only [qS,qZ,qC];rfl) | rfl) (ha:a.put (some d) v = a':=by simp only [qP,qN,qS,qZ,qC];rfl) :
  wpAnyH Try.prog md ops (NoPanic Q) S (fuel + 1) listed a w:=by
 subst hl ha
 exact wpAnyH_take hi hs hf hr (fun _ _ _ h=>h) hy hS h
theorem tr (i d:Nat) (ty:TypeId) (x:Tmp) {fs} {g:Nat} {t:TypeId} {cs:Array Value} {o2:TypeId} {o3:String} {o4:Array Edge} {o5:Option (Nat × Bool)} {fuel:Nat} {listed l':Array Bool} {a a':Act} {w:World}
  (hi:ops[i]? = some ⟨some d,.load ty (.tmp x),o2,o3,o4,o5⟩) (hg:∀ w,S w→HasObj w g (.cells cs t)) (hu:Try.prog.underlying ty = some (.struct fs)) (h:wpAnyH Try.prog md ops (NoPanic Q) S fuel l' a' w)
  (hS:S w:=by assumption) (hs:Region.noSelect ops = true:=by kernel_rfl) (hf:Region.free md ops listed i = true:=by kernel_rfl) (hr:(Region.ready md ops listed).contains i = true:=by kernel_rfl)
  (hw:Region.wanted ⟨some d,.load ty (.tmp x),o2,o3,o4,o5⟩ (yielded ops a.tmps) = true:=by rfl) (hx:a.eval (.tmp x) = .pointer (some ⟨g,0,none⟩):=by rfl) (hz:(Try.prog.info? ty).map (·.size) = some cs.size:=by kernel_rfl)
  (hl:listed.setIfInBounds i true = l':=by first | (simp only [qS,qZ,qC];rfl) | rfl) (ha:a.put (some d) (.agg cs) = a':=by simp only [qP,qN,qS,qZ,qC];rfl) :
  wpAnyH Try.prog md ops (NoPanic Q) S (fuel + 1) listed a w:=by
 subst hl ha
 exact wpAnyH_take hi hs hf hr (fun _ _ _ h=>h) (yifr ty (.tmp x) rfl hw hx hg hu hz) hS h
theorem r1 (i:Nat) (d:Option Tmp) {o1:Op} {o2:TypeId} {o3:String} {o4:Array Edge} {o5:Option (Nat × Bool)} {fuel:Nat} {listed l':Array Bool} {a a':Act} {w:World} (hi:ops[i]? = some ⟨d,o1,o2,o3,o4,o5⟩)
  (h:∀ K':Act→World→Prop,Shut (∀ a w,S w→(S w→wpAnyH Try.prog md ops (NoPanic Q) S fuel (l'.setIfInBounds i true) a w)→K' a w)→if Region.wanted ⟨d,o1,o2,o3,o4,o5⟩ (yielded ops a'.tmps) = true then Oper.wp Try.prog ⟨d,o1,o2,o3,o4,o5⟩ a' w K' (NoPanic Q) else K' (a'.put d undef) w)
  (hr:Region.ready md ops listed = [i]:=by kernel_rfl)
  (hl:listed = l':=by first | (simp only [qS,qZ,qC];rfl) | rfl) (ha:a = a':=by first | (simp only [qP,qN,qS,qZ,qC];rfl) | rfl):wpAnyH Try.prog md ops (NoPanic Q) S (fuel + 1) listed a w:=by
 subst hl ha
 exact wpAnyH_ready hr (by simp) (AllReadyH.cons hi h AllReadyH.nil)
theorem rn (rs:List Nat) {fuel:Nat} {listed l':Array Bool} {a a':Act} {w:World} (h:AllReadyH Try.prog md ops (NoPanic Q) S fuel l' a' w rs) (hr:Region.ready md ops listed = rs:=by kernel_rfl) (hn:rs≠[]:=by simp)
  (hl:listed = l':=by first | (simp only [qS,qZ,qC];rfl) | rfl) (ha:a = a':=by first | (simp only [qP,qN,qS,qZ,qC];rfl) | rfl):wpAnyH Try.prog md ops (NoPanic Q) S (fuel + 1) listed a w:=by
 subst hl ha
 exact wpAnyH_ready hr hn h
theorem rc (d:Option Tmp) {o1:Op} {o2:TypeId} {o3:String} {o4:Array Edge} {o5:Option (Nat × Bool)} {fuel:Nat} {listed:Array Bool} {a:Act} {w:World} {i:Nat} {rs:List Nat} (hi:ops[i]? = some ⟨d,o1,o2,o3,o4,o5⟩)
  (h:∀ K':Act→World→Prop,Shut (∀ a w,S w→(S w→wpAnyH Try.prog md ops (NoPanic Q) S fuel (listed.setIfInBounds i true) a w)→K' a w)→if Region.wanted ⟨d,o1,o2,o3,o4,o5⟩ (yielded ops a.tmps) = true then Oper.wp Try.prog ⟨d,o1,o2,o3,o4,o5⟩ a w K' (NoPanic Q) else K' (a.put d undef) w)
  (hs:AllReadyH Try.prog md ops (NoPanic Q) S fuel listed a w rs):AllReadyH Try.prog md ops (NoPanic Q) S fuel listed a w (i :: rs):=AllReadyH.cons hi h hs
end
theorem sR (ty:TypeId) (x y:Tmp) {g:Nat} {t:TypeId} {old cells:Array Value} {ops:Array Oper} {rest:List Oper} {o:Oper} {a:Act} {w:World} {Q:Exit→Act→World→Prop} (hg:HasObj w g (.cells old t)) (h:wpList Try.prog ops Q rest (a.put o.dst undef) (w.setRow g cells))
  (hgd:o.guard = none:=by rfl) (ho:o.op = .store ty (.tmp x) (.tmp y):=by rfl) (hx:a.eval (.tmp x) = .pointer (some ⟨g,0,none⟩):=by rfl) (hy:a.eval (.tmp y) = .agg cells:=by rfl)
  (hi:(Try.prog.info? ty).map (·.size) = some cells.size:=by kernel_rfl) (hold:old.size = cells.size:=by simp) (h1:cells.all (·.oneCell') = true:=by simp [Value.oneCell']):wpList Try.prog ops Q (o :: rest) a w :=
 wpList_store_row hgd ty (.tmp x) (.tmp y) ho g cells hx hy t old hg hi hold h1 h
theorem lR (ty:TypeId) (x:Tmp) {fs} {g:Nat} {t:TypeId} {cs:Array Value} {ops:Array Oper} {rest:List Oper} {o:Oper} {a:Act} {w:World} {Q:Exit→Act→World→Prop} (hg:HasObj w g (.cells cs t)) (hu:Try.prog.underlying ty = some (.struct fs)) (h:wpList Try.prog ops Q rest (a.put o.dst (.agg cs)) w)
  (hgd:o.guard = none:=by rfl) (ho:o.op = .load ty (.tmp x):=by rfl) (hx:a.eval (.tmp x) = .pointer (some ⟨g,0,none⟩):=by rfl)
  (hi:(Try.prog.info? ty).map (·.size) = some cs.size:=by kernel_rfl):wpList Try.prog ops Q (o :: rest) a w :=
 wpList_load_row hgd ty (.tmp x) ho g hx t cs (0,0) (.struct fs) hg hu rfl hi h
theorem rtR {fn:Func} {p u:Tmp} {ty:TypeId} (hf:fn.results = #[.cell p ty,.tmp u]) {fs} (hu:Try.prog.underlying ty = some (.struct fs)) (x:Value) {R:Ending→World→Prop} {a:Act} {w:World} {g:Nat} {t:TypeId} {cs:Array Value} (hg:HasObj w g (.cells cs t)) (hR:R (.returned (.tuple #[.agg cs,x])) w)
  (hp:a.tmps.getD p undef = .pointer (some ⟨g,0,none⟩):=by rfl) (hx:a.tmps.getD u undef = x:=by rfl) (hd:a.defers = []:=by rfl) (hi:(Try.prog.info? ty).map (·.size) = some cs.size:=by kernel_rfl):bodyPost Try.prog fn R .ret a w :=
 bodyPost_ret (v:=.tuple #[.agg cs,x]) (by rw [results_cell_tmp hf,hp,hx];simp [asAddr,run_loadVar_row w g t ty cs (0,0) (.struct fs) hg hu rfl hi,Result.andThen]) hd hR
end Go.Proofs.Ythpngeboknmllaa
