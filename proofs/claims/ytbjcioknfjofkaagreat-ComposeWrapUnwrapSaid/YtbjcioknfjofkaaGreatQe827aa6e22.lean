/- Texts put together. -/
import Derived.Test.YtbjcioknfjofkaaGreatQac4d3402fb
import Derived.Test.YtbjcioknfjofkaaGreatQ15a259026b
import Derived.Test.YtbjcioknfjofkaaGreatQ01b1205144
import Derived.Test.YtbjcioknfjofkaaGreatQ6a6e0ab96f
import Derived.Test.YtbjcioknfjofkaaGreatQ2018d60bd3
import Derived.Deep.CutBlock
import Derived.Deep.DeepCutAuto
set_option linter.unusedVariables false
set_option linter.unusedSimpArgs false
namespace Go.Proofs.YtbjcioknfjofkaaGreat
open Go.RowKit
def AlcX (wk:World) (o:Obj) (X:World):Prop:=Below wk.heap.size wk X∧HasObj X wk.heap.size o
theorem alc_named {K:Act→World→Prop} {a:Act} {wk:World} {o:Obj} (hk:∀ X,Hid (AlcX wk o X)→K a X):K a (wk.alloc o):=hk _ ⟨blA wk o,by cases o <;> exact heap_alloc_new wk _⟩
theorem alc_drew {K:Act→World→Prop} {a:Act} {wk:World} {o:Obj} (hk:∀ X,Hid (AlcX wk o X)→K a X):K a (wk.alloc o).drew:=hk _ ⟨Below.drew (blA wk o),heap_alloc_new wk _⟩
theorem row_obj {α:Type} {E:Enc α} {X:World} {b:Nat} {T:TypeId} {x:α} {cs:List Value} {S:Nat→Prop} (h:HasObj X b (.cells cs.toArray T)) (hx:E.R X S x cs) (hb:S b):SliceR E X S [x] (.slice (some ⟨b,0,none⟩) 1 1) :=
 ⟨_,_,cs,rfl,Nat.le_refl _,by simp [maxLen],fun _=>⟨b,0,rfl,hb,fun j u hu=>by rw [Nat.zero_add,h.cell j];simpa using hu⟩,ListR.single hx⟩
theorem of_facts {t:Tree} {p m rr:List Int} {ra rb:Int} (h:ofS t p m = ((rr,ra,rb),0)) (hpl:p.length≤90000) (hml:m.length≤90000):validS t = true∧rr.length≤90000∧0≤ra∧ra≤rb∧rb≤1000:=by
 obtain ⟨hv,hp,_,f1,f2,f3,f4⟩:=of_ok (t:=t) (p:=p) (m:=m) (by rw [h])
 rw [h] at f1 f2 f3 f4
 simp only at f1 f2 f3 f4
 have hcr:=find_count t rr
 have hlr:=kids_le_count (findS t rr).1
 have hvc:=(valid_count hv).1
 refine ⟨hv,?_,f2,f3,by omega⟩
 have h2:=h
 unfold ofS at h2
 split at h2 <;> unfold betV at h2 <;> split at h2
 ·simp at h2
 ·split at h2
  ·simp at h2
  ·have:=congrArg (fun x=>x.1.1.length) h2
   simp [btS] at this
   omega
 ·simp at h2
 ·split at h2
  ·simp at h2
  ·have:=congrArg (fun x=>x.1.1.length) h2
   simp [btS] at this
   omega
theorem few14_bd {t:Tree} {p m:List Int} {items:List Tree} {x:ByteArray} (h:few14S t p m items x = true):countS t≤300∧p.length≤60∧m.length≤60∧countsS items≤100∧x.size≤300:=by
 unfold few14S at h
 simp only [Bool.and_eq_true,decide_eq_true_eq] at h
 have h1:=few_count h.1
 have h2:=few_count h.2.2.2.1
 have h3:countS (rowT items) = 1 + countsS items:=rfl
 exact ⟨by omega,by omega,by omega,by omega,by omega⟩
end Go.Proofs.YtbjcioknfjofkaaGreat
