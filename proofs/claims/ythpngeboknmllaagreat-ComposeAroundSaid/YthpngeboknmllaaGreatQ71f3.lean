/- T -/
import Derived.Test.YthpngeboknmllaaGreatQa26f
import Derived.Deep.RegionHeld3
import Derived.Deep.DeepCutAuto
import Derived.Laws.StructEq
set_option linter.unusedVariables false
set_option linter.unusedSimpArgs false
set_option maxHeartbeats 8000000
set_option maxRecDepth 100000
namespace Go.Proofs.YthpngeboknmllaaGreat
open Go.RowKit
def ZE:List Int->List Int->Nat
 |i::s::x::a,j::t::y::b=>if i=j/\s=t then ZE (x::a) (y::b)+2 else 0
 |_,_=>0
theorem zNe:∀(a b:List Int),0<a.length->0<b.length->ZE a b<a.length/\ZE a b<b.length
 |[],_,h,_=>by simp at h
 |_,[],_,h=>by simp at h
 |[_],_::_,_,_=>by simp[ZE]
 |[_,_],_::_,_,_=>by simp[ZE]
 |_::_::_::_,[_],_,_=>by simp[ZE]
 |_::_::_::_,[_,_],_,_=>by simp[ZE]
 |
  i::s::x::a,j::t::y::b,_,_=>by
  rw[ZE];split
  ·have:=zNe (x::a) (y::b) (by simp) (by simp);simp only[List.length_cons] at *;omega
  simp
theorem zL6 {a b:List Int} {k:Nat} (h1:k+2<a.length) (h2:k+2<b.length) (h3:a[k]=b[k]) (h4:a[k+1]=b[k+1]):ZE (a.drop k) (b.drop k)=ZE (a.drop (k+2)) (b.drop (k+2))+2:=by
 rw[List.drop_eq_getElem_cons (show k<a.length by omega),List.drop_eq_getElem_cons (show k+1<a.length by omega),List.drop_eq_getElem_cons (show k+1+1<a.length by omega),
  List.drop_eq_getElem_cons (show k<b.length by omega),List.drop_eq_getElem_cons (show k+1<b.length by omega),List.drop_eq_getElem_cons (show k+1+1<b.length by omega),ZE,if_pos ⟨h3,h4⟩]
theorem zL5 {a b:List Int} {k:Nat} (h:¬(k+2<a.length/\k+2<b.length)):ZE (a.drop k) (b.drop k)=0:=by
 have h':(a.drop k).length<=2\/(b.drop k).length<=2:=by simp only[List.length_drop];omega
 generalize a.drop k=x at *;generalize b.drop k=y at *
 match x,y,h' with
 |[],_,_=>simp[ZE]
 |[_],_,_=>simp[ZE]
 |[_,_],_,_=>simp[ZE]
 |_::_::_::_,[],_=>simp[ZE]
 |_::_::_::_,[_],_=>simp[ZE]
 |_::_::_::_,[_,_],_=>simp[ZE]
 |_::_::_::_,_::_::_::_,h=>simp at h
theorem XP (w:World) (o:Obj):Below w.heap.size w (w.alloc o):=(QQ _ _).alloc (QT _) _
theorem zL7 {a b:List Int} {k:Nat} (h1:k+2<a.length) (h2:k+2<b.length) (h:¬(a[k]=b[k]/\a[k+1]=b[k+1])):ZE (a.drop k) (b.drop k)=0:=by
 rw[List.drop_eq_getElem_cons (show k<a.length by omega),List.drop_eq_getElem_cons (show k+1<a.length by omega),List.drop_eq_getElem_cons (show k+1+1<a.length by omega),
  List.drop_eq_getElem_cons (show k<b.length by omega),List.drop_eq_getElem_cons (show k+1<b.length by omega),List.drop_eq_getElem_cons (show k+1+1<b.length by omega),ZE,if_neg h]
theorem Ra:Tryz.prog.underlying 174=some (.array 2 3):=by kernel_rfl
theorem SA (w:World):(isAgg 174).run Tryz.prog w=.ok true w:=by kernel_rfl
theorem TK (w:World):(Go.sizeOf 174).run Tryz.prog w=.ok 2 w:=by kernel_rfl
theorem U3:Tryz.prog.eqGuardType Tryz.prog.depth 174=false:=by kernel_rfl
theorem U4 (g o:Nat) (w:World) (c:Nat):(Instr.arrayAt 174 (.slice (some ⟨g,o,none⟩) 2 c)).run Tryz.prog w=.ok (.pointer (some ⟨g,o,none⟩)) w:=by
 simp[Instr.arrayAt,run_underlying Ra]
theorem Rv (x y:Int) (w:World):(part 3 #[.int .i64 x,.int .i64 y] 0).run Tryz.prog w=.ok (.int .i64 x) w/\(part 3 #[.int .i64 x,.int .i64 y] 1).run Tryz.prog w=.ok (.int .i64 y) w:=⟨by kernel_rfl,by kernel_rfl⟩
theorem U5 (x y u v:Int) (w:World):(Op.equalIn 10000 174 (.agg #[.int .i64 x,.int .i64 y]) (.agg #[.int .i64 u,.int .i64 v])).run Tryz.prog w=.ok (x==u&&y==v) w:=by
 have h3:Tryz.prog.underlying 3=some (.int .i64):=by kernel_rfl
 have e1:=fun (d:Nat) (a b:Int) (w:World)=>run_equalIn_int (P:=Tryz.prog) w d 3 .i64 .i64 a b h3
 rw[show (10000:Nat)=9998+1+1 from rfl];cases h1:(x==u)<;>cases h2:(y==v) <;>
 simp[Op.equalIn.eq_def (9998+1+1),run_underlying Ra,XA,ZF,Std.Legacy.Range.forIn_eq_forIn_range',Std.Legacy.Range.size,List.range',Rv,e1,h1,h2]
theorem zKn {a:List Int} {A:Option Addr} {ca:Nat} {w:World} (ha:Z0 w (Lt w.heap.size) a (.slice A a.length ca)) {k:Nat} (hk:k<a.length) :
  ∃
   g o,A=some ⟨g,o,none⟩/\g<w.heap.size/\(∀W,Below w.heap.size w W->∀j,(h:j<a.length)->W.cell? ⟨g,o+j,none⟩=some (.int .i64 a[j]))/\a.length<=ca /\
   (∀W,(Instr.slice 25 (.slice (some ⟨g,o,none⟩) a.length ca) (some (.int .i64 (k:Int))) none none).run Tryz.prog W=.ok (.slice (some ⟨g,o+k,none⟩) (a.length-k) (ca-k)) W):=by
 obtain⟨_,_,rs,e,h1,h2,h3,h4⟩:=ha;cases e;obtain⟨g,o,rfl,hg,_,c0⟩:=YG h3 h4 hk;refine⟨g,o,rfl,hg,fun W hW j hj=>?_,h1,fun W=>?_⟩
 ·obtain⟨g',o',e,hg',_,cj⟩:=YG h3 h4 hj;cases e;exact((bcell hW).1 _ _ hg).trans cj
 have he:Tryz.prog.elem 25=3:=by simp[Program.elem,Tryz.underlying25]
 rw[run_slice_l W 25 (some ⟨g,o,none⟩) a.length ca (by rw[he];exact Tryz.underlying25) .i64 k (by omega) (by omega),he,XA W];have aa:ca≠k:=by omega
 simp[Result.andThen,sliced,ZF,Addr.add,aa]
 try (intro h0;subst h0;simp)
theorem zHg {n ca g o k:Nat} (h1:k+2<=n) (h2:n<=ca) (hc:ca<=9223372036854775807) (W:World) :
  (Instr.slice 25 (.slice (some ⟨g,o,none⟩) n ca) (some (.int .i64 (k:Int))) (some (.int .i64 ((k:Int)+2))) none).run Tryz.prog W=.ok (.slice (some ⟨g,o+k,none⟩) 2 (ca-k)) W:=by
 have he:Tryz.prog.elem 25=3:=by simp[Program.elem,Tryz.underlying25]
 rw[run_slice_lh W 25 (some ⟨g,o,none⟩) n ca (by rw[he];exact Tryz.underlying25) .i64 .i64 k (k+2) (by omega) (by omega) (by omega),he,XA W];have ae:ca≠k:=by omega
 simp[Result.andThen,sliced,ZF,Addr.add,ae];have aa:((k:Int)+2).toNat-k=2:=by omega
 first
  |exact aa
  |exact⟨aa,fun h0=>by subst h0;simp⟩
  |exact⟨fun h0=>by subst h0;simp,aa⟩
  |(intro h0;subst h0;simp)
def YC (a b:List Int):List Int×Int×Int :=
 (a.take (ZE a b),min (a.getD (ZE a b) 0) (b.getD (ZE a b) 0),max (Zj (a.drop (ZE a b))) (Zj (b.drop (ZE a b))))
def zMg (w:World) (r:List Int×Int×Int) (e:Ending) (w':World):Prop :=
 ∃v,e=.returned (.agg #[v,.int .i64 r.2.1,.int .i64 r.2.2])/\Z0 w' (fun k=>w.heap.size<=k/\k<w'.heap.size) r.1 v/\Below w.heap.size w w'
theorem Zc (W:World) (arr:Array Value) (T:TypeId) (b o:Nat) (hb:b=W.heap.size):(W.alloc (.cells arr T)).cell? ⟨b,o,none⟩=arr[o]?:=by subst hb;exact World.cell?_alloc_new _ _ _ _
theorem YY (W:World) (arr:Array Value) (T:TypeId) (b o:Nat) (hb:b=W.heap.size):(W.alloc (.cells arr T)).frozen? ⟨b,o,none⟩=false:=by subst hb;exact World.frozen?_alloc_new _ _ _ _
theorem Yi (W:World) (B:Obj) (b o:Nat) (x:Option Value) (hb:b<W.heap.size) (h:W.cell? ⟨b,o,none⟩=x):(W.alloc B).cell? ⟨b,o,none⟩=x:=((XP W B).cell (p:=⟨b,o,none⟩) hb).trans h
theorem Wu (W:World) (B:Obj) (b o:Nat) (hb:b<W.heap.size) (h:W.frozen? ⟨b,o,none⟩=false):(W.alloc B).frozen? ⟨b,o,none⟩=false:=((XP W B).frozen (p:=⟨b,o,none⟩) hb).trans h
theorem XZ (W:World) (arr:Array Value) (T:TypeId) (B:Obj) (b o:Nat) (hb:b=W.heap.size):((W.alloc (.cells arr T)).alloc B).cell? ⟨b,o,none⟩=arr[o]?:=by
 rw[(XP (W.alloc (.cells arr T)) B).cell (by simp;omega)];exact Zc W arr T b o hb
theorem Ws (W:World) (arr:Array Value) (T:TypeId) (B:Obj) (b o:Nat) (hb:b=W.heap.size):((W.alloc (.cells arr T)).alloc B).frozen? ⟨b,o,none⟩=false:=by
 rw[(XP (W.alloc (.cells arr T)) B).frozen (by simp;omega)];exact YY W arr T b o hb
theorem SE {W X:World} {b o:Nat} {v:Value} (h:Below W.heap.size W X) (hB:W.heap.size<=b):Below W.heap.size W (X.setCell ⟨b,o,none⟩ v):=h.setCell (p:=⟨b,o,none⟩) hB v
theorem WU {W X:World} (h:Below W.heap.size W X) (o:Obj):Below W.heap.size W (X.alloc o):=h.alloc h.size o
theorem zDh {W X Y:World} (h:Below W.heap.size W X) (hb:Below X.heap.size X Y):Below W.heap.size W Y:=h.trans (hb.mono h.size)
theorem U7 {W X:World} {n:Nat} (h:Below W.heap.size W X):Below W.heap.size W (X.drewN n):=⟨h.os,h.tape,h.output,h.size,h.block⟩
theorem zQs {W X:World} (h:Below W.heap.size W X):Below W.heap.size W X.drew:=⟨h.os,h.tape,h.output,h.size,h.block⟩
theorem zI3 {w w':World} {B:Nat} (h:Below B w.drew w'):Below B w w':=⟨h.os,h.tape,h.output,h.size,h.block⟩
theorem three {w:World} {b:Nat} {x0 x1 x2:Value} (d0:w.cell? ⟨b,0,none⟩=some x0) (d1:w.cell? ⟨b,1,none⟩=some x1) (d2:w.cell? ⟨b,2,none⟩=some x2) (y0 y1 y2:Value) {W:World}
  (hW:W=((w.setCell ⟨b,0,none⟩ y0).setCell ⟨b,1,none⟩ y1).setCell ⟨b,2,none⟩ y2) :
  (W.cell? ⟨b,0,none⟩=some y0/\W.cell? ⟨b,1,none⟩=some y1/\W.cell? ⟨b,2,none⟩=some y2)/\W.heap.size=w.heap.size/\(∀B a,B<=b->Below B a w->Below B a W)/\(∀p:Addr,p.block≠b->W.cell? p=w.cell? p):=by
 have o:∀(i j:Nat),i≠j->(⟨b,i,none⟩:Addr)≠⟨b,j,none⟩:=fun i j h e=>h (by injection e)
 have f:∀(p:Addr) (j:Nat),p.block≠b->(⟨b,j,none⟩:Addr)≠p:=fun p j h e=>h (by rw[<-e])
 subst hW;refine⟨⟨?_,?_,?_⟩,by simp[World.setCell],fun B a hB h=>((h.setCell hB _).setCell hB _).setCell hB _,fun p hp=>?_⟩
 ·rw[World.cell?_setCell_other (h:=o 2 0 (by decide)),World.cell?_setCell_other (h:=o 1 0 (by decide)),World.cell?_setCell_same (h:=d0)]
 ·rw[World.cell?_setCell_other (h:=o 2 1 (by decide))];exact World.cell?_setCell_same _ _ _ (by rw[World.cell?_setCell_other (h:=o 0 1 (by decide))];exact d1)
 ·exact World.cell?_setCell_same _ _ _ (by rw[World.cell?_setCell_other (h:=o 1 2 (by decide)),World.cell?_setCell_other (h:=o 0 2 (by decide))];exact d2)
 rw[World.cell?_setCell_other (h:=f p 2 hp),World.cell?_setCell_other (h:=f p 1 hp),World.cell?_setCell_other (h:=f p 0 hp)]
theorem zEe (xs:List Int) (w:World) (v:Value) (hv:Z0 w (Lt w.heap.size) xs v) (aa:xs.length<=1000000):Calls Tryz.prog 99 #[v] w (Wl w xs):=by
 have HC:=hid (zQp xs w v hv aa);obtain⟨A,c,rfl⟩:=hv.form;clear hv;go_enter Tryz.func99,Tryz.ntmps99
 go_wp2_with fail
 refine HC.out.mono ?_;rintro e w1 ⟨v1,rfl,ho,hb⟩;have HO:=hid ho;have HB:=hid hb;clear ho hb
 go_wp2_with fail
 go_ret;exact⟨_,rfl,HO.out,HB.out⟩
theorem zNh (a b:List Int) (A B:Option Addr) (ca cb:Nat) (w:World) (ha:Z0 w (Lt w.heap.size) a (.slice A a.length ca)) (hb:Z0 w (Lt w.heap.size) b (.slice B b.length cb)) (h0:0<a.length) (h1:0<b.length) (hl:a.length<=1000000/\b.length<=1000000)
  (aT:∀x∈a,0<=x/\x<=1000000) (aS:∀x∈b,0<=x/\x<=1000000) :
  Calls Tryz.prog 142 #[.slice A a.length ca,.slice B b.length cb] w (zMg w (YC a b)):=by
 have HA:=hid ha;have HB:=hid hb;have bC:=hid aT;have bB:=hid aS;obtain⟨dD,dC⟩:=hl;obtain⟨ak,aj⟩:=zNe a b h0 h1;have bN:Hid (YC a b=(a.take (ZE a b),min (a.getD (ZE a b) 0) (b.getD (ZE a b) 0),max (Zj (a.drop (ZE a b))) (Zj (b.drop (ZE a b))))):=rfl;clear ha hb aT aS;go_enter Tryz.func142,Tryz.ntmps142
 go_wp2_with fail
 go_loopw [5] (fun i wr=>(∃n,wr=(w.alloc (.cells #[.slice none 0 0,.int .i64 0,.int .i64 0] 67)).drewN n)/\∃k:Nat,k<a.length/\k<b.length/\i=.int .i64 k/\ZE (a.drop k) (b.drop k)+k=ZE a b) (fun i _=>a.length-(intOf i).toNat)
 case atStart=>exact⟨⟨0,rfl⟩,0,h0,h1,rfl,rfl⟩
 obtain⟨⟨n,rfl⟩,k,ak,aj,rfl,ag⟩:=hrel;have HR:=hid ag;clear ag;obtain⟨ga,oa,rfl,dF,aN,ax,dz⟩:=zKn HA.out ak;obtain⟨gb,ob,rfl,dE,aM,aG,dx⟩:=zKn HB.out aj;have aF:ca<=9223372036854775807:=by obtain⟨_,_,_,e,_,h,_⟩:=HA.out;cases e;unfold maxLen at h;omega
 have aD:cb<=9223372036854775807:=by obtain⟨_,_,_,e,_,h,_⟩:=HB.out;cases e;unfold maxLen at h;omega
 have bu:=bC.out a[k] (List.getElem_mem ak);have bn:=bB.out b[k] (List.getElem_mem aj);generalize aB:w.alloc (.cells #[.slice none 0 0,.int .i64 0,.int .i64 0] 67)=W0 at *;have ai:Below w.heap.size w W0:=by rw[<-aB];exact XP _ _
 have qa:=aN W0 ai k ak;have qb:=aM W0 ai k aj;have cZ:W0.heap.size=w.heap.size+1:=by rw[<-aB];simp
 have cB:w.heap.size<W0.heap.size:=by omega
 have aH:Hid (∀W,Below W0.heap.size W0 W->(W.cell? ⟨w.heap.size,0,none⟩=some (.slice none 0 0)/\W.cell? ⟨w.heap.size,1,none⟩=some (.int .i64 0)/\W.cell? ⟨w.heap.size,2,none⟩=some (.int .i64 0))/\(W.frozen? ⟨w.heap.size,0,none⟩=false/\W.frozen? ⟨w.heap.size,1,none⟩=false/\W.frozen? ⟨w.heap.size,2,none⟩=false)/\Below w.heap.size w W/\w.heap.size<W.heap.size):=by
  intro W hW;have hc:=(bcell hW).1;have hf:=(bcell hW).2;have hw:w.heap.size<W0.heap.size:=by omega
  refine⟨⟨(hc _ _ hw).trans ?_,(hc _ _ hw).trans ?_,(hc _ _ hw).trans ?_⟩,⟨(hf _ _ hw).trans ?_,(hf _ _ hw).trans ?_,(hf _ _ hw).trans ?_⟩,ai.trans (hW.mono ai.size),by have:=hW.size;omega⟩
  all_goals (rw[<-aB];first|(rw[World.cell?_alloc_new];rfl)|exact World.frozen?_alloc_new _ _ _ _)
 have dL:ga<W0.heap.size:=by omega
 have dI:gb<W0.heap.size:=by omega
 have dK:ga<W0.heap.size+1:=by omega
 have dH:gb<W0.heap.size+1:=by omega
 have dJ:ga<W0.heap.size+1+1:=by omega
 have dG:gb<W0.heap.size+1+1:=by omega
 have cu:ga≠W0.heap.size:=(by omega);have bZ:W0.heap.size≠ga:=(by omega);have bY:ga≠W0.heap.size+1:=(by omega);have bW:W0.heap.size+1≠ga:=(by omega);have bU:gb≠W0.heap.size:=(by omega);have bR:W0.heap.size≠gb:=(by omega);have bQ:gb≠W0.heap.size+1:=(by omega);have bP:W0.heap.size+1≠gb:=(by omega);have aR:0<a.length-k:=by omega
 have aP:0<b.length-k:=by omega
 have aQ:a.length-k<=9223372036854775807:=by omega
 have aO:b.length-k<=9223372036854775807:=by omega
 have bM:Hid (∀W,W.cell? ⟨ga,oa+k,none⟩=some (.int .i64 a[k])->ga<W.heap.size->Calls Tryz.prog 160 #[.slice (some ⟨ga,oa+k,none⟩) (a.length-k) (ca-k)] W fun e w'=>e=.returned (.agg #[.int .i64 a[k],.int .i64 (if a.length-k=1 then a[k] else a[k]+1)])/\Below W.heap.size W w'):=fun W h1 h2=>zN7 _ _ _ _ _ W h1 h2 aR aQ bu
 have bL:Hid (∀W,W.cell? ⟨gb,ob+k,none⟩=some (.int .i64 b[k])->gb<W.heap.size->Calls Tryz.prog 160 #[.slice (some ⟨gb,ob+k,none⟩) (b.length-k) (cb-k)] W fun e w'=>e=.returned (.agg #[.int .i64 b[k],.int .i64 (if b.length-k=1 then b[k] else b[k]+1)])/\Below W.heap.size W w'):=fun W h1 h2=>zN7 _ _ _ _ _ W h1 h2 aP aO bn
 have bI:=hid aN;have bH:=hid aM;have ia:(k:Int)<=(a.length:Int):=by omega
 have ib:(k:Int)<=(b.length:Int):=by omega
 clear aN aM aB cZ bu bn;have bA:Hid (Zj (a.drop k)=if a.length-k=1 then a[k] else a[k]+1):=by show _=_;unfold Zj;rw[List.length_drop,List.drop_eq_getElem_cons ak];rfl
 have bz:Hid (Zj (b.drop k)=if b.length-k=1 then b[k] else b[k]+1):=by show _=_;unfold Zj;rw[List.length_drop,List.drop_eq_getElem_cons aj];rfl
 have bK:Hid (a.getD k 0=a[k]):=by show _=_;rw[List.getD_eq_getElem?_getD,List.getElem?_eq_getElem ak];rfl
 have bJ:Hid (b.getD k 0=b[k]):=by show _=_;rw[List.getD_eq_getElem?_getD,List.getElem?_eq_getElem aj];rfl
 generalize (if a.length-k=1 then a[k] else a[k]+1)=ea at *;generalize (if b.length-k=1 then b[k] else b[k]+1)=eb at *;have wd:IntKind.i64.wrap ((k:Int)+2)=(k:Int)+2:=IntWalk.i64_in _ (by omega);have aJ:Hid (∀h:k+1<a.length,W0.cell? ⟨ga,oa+k+1,none⟩=some (.int .i64 a[k+1])):=fun h=>by have:=bI.out W0 ai (k+1) h;rwa[<-Nat.add_assoc] at this
 have aI:Hid (∀h:k+1<b.length,W0.cell? ⟨gb,ob+k+1,none⟩=some (.int .i64 b[k+1])):=fun h=>by have:=bH.out W0 ai (k+1) h;rwa[<-Nat.add_assoc] at this
 have dw:=fun W=>U4 ga (oa+k) W (ca-k)
 have dn:=fun W=>U4 gb (ob+k) W (cb-k)
 have dm:=SA;have dh:=TK;have df:=U3;by_cases au:(k+2<a.length/\k+2<b.length)/\∀(p:k+1<a.length) (q:k+1<b.length),a[k]=b[k]/\a[k+1]=b[k+1]
 ·obtain⟨⟨l1,l2⟩,aV⟩:=au;have hq:=aV (by omega) (by omega);have p1:=aJ.out (by omega);have p2:=aI.out (by omega);have i1:(k:Int)+2<(a.length:Int):=by omega
  have i2:(k:Int)+2<(b.length:Int):=by omega
  have d1:decide ((k:Int)+2<(a.length:Int))=true:=decide_eq_true i1;have d2:decide ((k:Int)+2<(b.length:Int))=true:=decide_eq_true i2;have dB:=fun W=>zHg (n:=a.length) (ca:=ca) (g:=ga) (o:=oa) (k:=k) (by omega) ax aF W
  have dA:=fun W=>zHg (n:=b.length) (ca:=cb) (g:=gb) (o:=ob) (k:=k) (by omega) aG aD W
  have he:=fun W=>U5 a[k] a[k+1] b[k] b[k+1] W
  have HN:Hid (ZE (a.drop (k+2)) (b.drop (k+2))+(k+2)=ZE a b):=by show _=_;rw[<-HR.out,zL6 l1 l2 hq.1 hq.2];omega
  have hb:(a[k]==b[k]&&a[k+1]==b[k+1])=true:=by simp[hq.1,hq.2]
  rw[hb] at he;clear hq hb aV
  go_wp2_with fail
  go_quiet (fail)
  go_wp2_with fail
  go_roundw
  case rel=>exact⟨by first|exact⟨_,rfl⟩|(simp only[World.drewN_drewN];exact⟨_,rfl⟩),k+2,by omega,by omega,by go_num,HN.out⟩
  case measure=>simp[intOf];omega
 have bD:Hid (ZE a b=k):=by
  show _=_;rw[<-HR.out];by_cases aa:k+2<a.length/\k+2<b.length
  ·rw[zL7 aa.1 aa.2 (fun h=>au ⟨aa,fun _ _=>h⟩)];omega
  rw[zL5 aa];omega
 go_upto_region 2 with fail
 go_cut [36] (fun s wx=>s=.bool false/\∃n,wx=W0.drewN n)
 case first =>
  by_cases aa:k+2<a.length/\k+2<b.length
  ·obtain⟨l1,l2⟩:=aa;have p1:=aJ.out (by omega);have p2:=aI.out (by omega);have i1:(k:Int)+2<(a.length:Int):=by omega
   have i2:(k:Int)+2<(b.length:Int):=by omega
   have d1:decide ((k:Int)+2<(a.length:Int))=true:=decide_eq_true i1;have d2:decide ((k:Int)+2<(b.length:Int))=true:=decide_eq_true i2;have dB:=fun W=>zHg (n:=a.length) (ca:=ca) (g:=ga) (o:=oa) (k:=k) (by omega) ax aF W
   have dA:=fun W=>zHg (n:=b.length) (ca:=cb) (g:=gb) (o:=ob) (k:=k) (by omega) aG aD W
   have he:=fun W=>U5 a[k] a[k+1] b[k] b[k+1] W
   have hb:(a[k]==b[k]&&a[k+1]==b[k+1])=false:=by rw[Bool.eq_false_iff];intro h;simp only[Bool.and_eq_true,beq_iff_eq] at h;exact au ⟨⟨l1,l2⟩,fun _ _=>h⟩
   rw[hb] at he;clear au hb
   go_quiet (fail)
   go_wp2_with fail
   go_meet;exact⟨rfl,by first|exact⟨_,rfl⟩|(simp only[World.drewN_drewN];exact⟨_,rfl⟩)⟩
  have dM:¬((k:Int)+2<(a.length:Int))\/((k:Int)+2<(a.length:Int)/\¬((k:Int)+2<(b.length:Int))):=by omega
  clear au aa;rcases dM with e1|⟨e1,e2⟩
  ·have d1:decide ((k:Int)+2<(a.length:Int))=false:=decide_eq_false e1
   go_quiet (fail)
   go_wp2_with fail
   go_meet;exact⟨rfl,by first|exact⟨_,rfl⟩|(simp only[World.drewN_drewN];exact⟨_,rfl⟩)⟩
  have d1:decide ((k:Int)+2<(a.length:Int))=true:=decide_eq_true e1;have d2:decide ((k:Int)+2<(b.length:Int))=false:=decide_eq_false e2
  go_quiet (fail)
  go_wp2_with fail
  go_meet;exact⟨rfl,by first|exact⟨_,rfl⟩|(simp only[World.drewN_drewN];exact⟨_,rfl⟩)⟩
 obtain⟨rfl,m,rfl⟩:=hcut;clear au wd dw dn dm dh df
 go_wp2_with fail
 go_upto_region 4 with fail
 go_cut [6,7] (fun s6 s7 wx=>∃g6 g7:Nat,w.heap.size<g6/\w.heap.size<g7/\s6=.pointer (some ⟨g6,0,none⟩)/\s7=.pointer (some ⟨g7,0,none⟩)/\wx.cell? ⟨g6,0,none⟩=some (.int .i64 a[k])/\wx.cell? ⟨g6,1,none⟩=some (.int .i64 ea)/\wx.cell? ⟨g7,0,none⟩=some (.int .i64 b[k])/\wx.cell? ⟨g7,1,none⟩=some (.int .i64 eb)/\Below W0.heap.size W0 wx)
 case first =>
  go_region_held3 (fun w'=>w'.cell? ⟨ga,oa+k,none⟩=some (.int .i64 a[k])/\w'.cell? ⟨gb,ob+k,none⟩=some (.int .i64 b[k])) (go_keep) (first
   |(go_at_call 160;(with_reducible refine(bM.out _ ?_ ?_).mono ?_);(first|assumption|(simp[*]));(first|omega|(simp;omega)|(simp[*]));rintro e w1 ⟨rfl,aA⟩;obtain⟨hc1,av⟩:=bcell aA;have cO:=aA.size;have dS:=hid aA;(try simp at cO);have sa1:=(hc1 ga (oa+k) (by first|omega|(simp;done)|(simp;omega))).trans (show _=some (.int .i64 a[k]) by first|assumption|simp[*]);have sb1:=(hc1 gb (ob+k) (by first|omega|(simp;done)|(simp;omega))).trans (show _=some (.int .i64 b[k]) by first|assumption|simp[*]);have ta1:ga<w1.heap.size:=(by omega);have tb1:gb<w1.heap.size:=(by omega);have np0:ga≠w1.heap.size:=(by omega);have np1:w1.heap.size≠ga:=(by omega);have np2:ga≠w1.heap.size+1:=(by omega);have np3:w1.heap.size+1≠ga:=(by omega);have np4:gb≠w1.heap.size:=(by omega);have np5:w1.heap.size≠gb:=(by omega);have np6:gb≠w1.heap.size+1:=(by omega);have np7:w1.heap.size+1≠gb:=(by omega);(try have u1:W0.heap.size<w1.heap.size:=(by omega));(try have u2:W0.heap.size+1<w1.heap.size:=(by omega));(try have u3:W0.heap.size≠w1.heap.size:=(by omega));(try have u4:w1.heap.size≠W0.heap.size:=(by omega));(try have xp0:w1.cell? ⟨W0.heap.size,0,none⟩=some (.int .i64 0):=((hc1 _ _ (by first|omega|(simp;done)|(simp;omega))).trans (by first|assumption|(refine Eq.trans (Yi _ _ _ _ _ ?_ ?_) rfl<;>assumption)|((refine Eq.trans (Zc _ _ _ _ _ ?_) rfl);(simp;done))|((refine Eq.trans (XZ _ _ _ _ _ _ ?_) rfl);(simp;done)))));(try have yp0:w1.frozen? ⟨W0.heap.size,0,none⟩=false:=((av _ _ (by first|omega|(simp;done)|(simp;omega))).trans (by first|assumption|(refine Wu _ _ _ _ ?_ ?_<;>assumption)|((refine YY _ _ _ _ _ ?_);(simp;done))|((refine Ws _ _ _ _ _ _ ?_);(simp;done)))));(try have xp1:w1.cell? ⟨W0.heap.size,1,none⟩=some (.int .i64 0):=((hc1 _ _ (by first|omega|(simp;done)|(simp;omega))).trans (by first|assumption|(refine Eq.trans (Yi _ _ _ _ _ ?_ ?_) rfl<;>assumption)|((refine Eq.trans (Zc _ _ _ _ _ ?_) rfl);(simp;done))|((refine Eq.trans (XZ _ _ _ _ _ _ ?_) rfl);(simp;done)))));(try have yp1:w1.frozen? ⟨W0.heap.size,1,none⟩=false:=((av _ _ (by first|omega|(simp;done)|(simp;omega))).trans (by first|assumption|(refine Wu _ _ _ _ ?_ ?_<;>assumption)|((refine YY _ _ _ _ _ ?_);(simp;done))|((refine Ws _ _ _ _ _ _ ?_);(simp;done)))));(try have xp2:w1.cell? ⟨(W0.heap.size+1),0,none⟩=some (.int .i64 0):=((hc1 _ _ (by first|omega|(simp;done)|(simp;omega))).trans (by first|assumption|(refine Eq.trans (Yi _ _ _ _ _ ?_ ?_) rfl<;>assumption)|((refine Eq.trans (Zc _ _ _ _ _ ?_) rfl);(simp;done))|((refine Eq.trans (XZ _ _ _ _ _ _ ?_) rfl);(simp;done)))));(try have yp2:w1.frozen? ⟨(W0.heap.size+1),0,none⟩=false:=((av _ _ (by first|omega|(simp;done)|(simp;omega))).trans (by first|assumption|(refine Wu _ _ _ _ ?_ ?_<;>assumption)|((refine YY _ _ _ _ _ ?_);(simp;done))|((refine Ws _ _ _ _ _ _ ?_);(simp;done)))));(try have xp3:w1.cell? ⟨(W0.heap.size+1),1,none⟩=some (.int .i64 0):=((hc1 _ _ (by first|omega|(simp;done)|(simp;omega))).trans (by first|assumption|(refine Eq.trans (Yi _ _ _ _ _ ?_ ?_) rfl<;>assumption)|((refine Eq.trans (Zc _ _ _ _ _ ?_) rfl);(simp;done))|((refine Eq.trans (XZ _ _ _ _ _ _ ?_) rfl);(simp;done)))));(try have yp3:w1.frozen? ⟨(W0.heap.size+1),1,none⟩=false:=((av _ _ (by first|omega|(simp;done)|(simp;omega))).trans (by first|assumption|(refine Wu _ _ _ _ ?_ ?_<;>assumption)|((refine YY _ _ _ _ _ ?_);(simp;done))|((refine Ws _ _ _ _ _ _ ?_);(simp;done)))));clear aA hc1 av)
   |(go_at_call 160;(with_reducible refine(bL.out _ ?_ ?_).mono ?_);(first|assumption|(simp[*]));(first|omega|(simp;omega)|(simp[*]));rintro e w2 ⟨rfl,az⟩;obtain⟨ae,af⟩:=bcell az;have cK:=az.size;have dR:=hid az;(try simp at cK);have sa2:=(ae ga (oa+k) (by first|omega|(simp;done)|(simp;omega))).trans (show _=some (.int .i64 a[k]) by first|assumption|simp[*]);have sb2:=(ae gb (ob+k) (by first|omega|(simp;done)|(simp;omega))).trans (show _=some (.int .i64 b[k]) by first|assumption|simp[*]);have ta2:ga<w2.heap.size:=(by omega);have tb2:gb<w2.heap.size:=(by omega);have nq0:ga≠w2.heap.size:=(by omega);have nq1:w2.heap.size≠ga:=(by omega);have nq2:ga≠w2.heap.size+1:=(by omega);have nq3:w2.heap.size+1≠ga:=(by omega);have nq4:gb≠w2.heap.size:=(by omega);have nq5:w2.heap.size≠gb:=(by omega);have nq6:gb≠w2.heap.size+1:=(by omega);have nq7:w2.heap.size+1≠gb:=(by omega);(try have v1:W0.heap.size<w2.heap.size:=(by omega));(try have v2:W0.heap.size+1<w2.heap.size:=(by omega));(try have v3:w1.heap.size<w2.heap.size:=(by omega));(try have v4:w1.heap.size+1<w2.heap.size:=(by omega));(try have xq0:w2.cell? ⟨W0.heap.size,0,none⟩=some (.int .i64 0):=((ae _ _ (by first|omega|(simp;done)|(simp;omega))).trans (by first|assumption|(refine Eq.trans (Yi _ _ _ _ _ ?_ ?_) rfl<;>assumption)|((refine Eq.trans (Zc _ _ _ _ _ ?_) rfl);(simp;done))|((refine Eq.trans (XZ _ _ _ _ _ _ ?_) rfl);(simp;done)))));(try have yq0:w2.frozen? ⟨W0.heap.size,0,none⟩=false:=((af _ _ (by first|omega|(simp;done)|(simp;omega))).trans (by first|assumption|(refine Wu _ _ _ _ ?_ ?_<;>assumption)|((refine YY _ _ _ _ _ ?_);(simp;done))|((refine Ws _ _ _ _ _ _ ?_);(simp;done)))));(try have xq1:w2.cell? ⟨W0.heap.size,1,none⟩=some (.int .i64 0):=((ae _ _ (by first|omega|(simp;done)|(simp;omega))).trans (by first|assumption|(refine Eq.trans (Yi _ _ _ _ _ ?_ ?_) rfl<;>assumption)|((refine Eq.trans (Zc _ _ _ _ _ ?_) rfl);(simp;done))|((refine Eq.trans (XZ _ _ _ _ _ _ ?_) rfl);(simp;done)))));(try have yq1:w2.frozen? ⟨W0.heap.size,1,none⟩=false:=((af _ _ (by first|omega|(simp;done)|(simp;omega))).trans (by first|assumption|(refine Wu _ _ _ _ ?_ ?_<;>assumption)|((refine YY _ _ _ _ _ ?_);(simp;done))|((refine Ws _ _ _ _ _ _ ?_);(simp;done)))));(try have xq2:w2.cell? ⟨(W0.heap.size+1),0,none⟩=some (.int .i64 0):=((ae _ _ (by first|omega|(simp;done)|(simp;omega))).trans (by first|assumption|(refine Eq.trans (Yi _ _ _ _ _ ?_ ?_) rfl<;>assumption)|((refine Eq.trans (Zc _ _ _ _ _ ?_) rfl);(simp;done))|((refine Eq.trans (XZ _ _ _ _ _ _ ?_) rfl);(simp;done)))));(try have yq2:w2.frozen? ⟨(W0.heap.size+1),0,none⟩=false:=((af _ _ (by first|omega|(simp;done)|(simp;omega))).trans (by first|assumption|(refine Wu _ _ _ _ ?_ ?_<;>assumption)|((refine YY _ _ _ _ _ ?_);(simp;done))|((refine Ws _ _ _ _ _ _ ?_);(simp;done)))));(try have xq3:w2.cell? ⟨(W0.heap.size+1),1,none⟩=some (.int .i64 0):=((ae _ _ (by first|omega|(simp;done)|(simp;omega))).trans (by first|assumption|(refine Eq.trans (Yi _ _ _ _ _ ?_ ?_) rfl<;>assumption)|((refine Eq.trans (Zc _ _ _ _ _ ?_) rfl);(simp;done))|((refine Eq.trans (XZ _ _ _ _ _ _ ?_) rfl);(simp;done)))));(try have yq3:w2.frozen? ⟨(W0.heap.size+1),1,none⟩=false:=((af _ _ (by first|omega|(simp;done)|(simp;omega))).trans (by first|assumption|(refine Wu _ _ _ _ ?_ ?_<;>assumption)|((refine YY _ _ _ _ _ ?_);(simp;done))|((refine Ws _ _ _ _ _ _ ?_);(simp;done)))));(try have xq4:w2.cell? ⟨w1.heap.size,0,none⟩=some (.int .i64 0):=((ae _ _ (by first|omega|(simp;done)|(simp;omega))).trans (by first|assumption|(refine Eq.trans (Yi _ _ _ _ _ ?_ ?_) rfl<;>assumption)|((refine Eq.trans (Zc _ _ _ _ _ ?_) rfl);(simp;done))|((refine Eq.trans (XZ _ _ _ _ _ _ ?_) rfl);(simp;done)))));(try have yq4:w2.frozen? ⟨w1.heap.size,0,none⟩=false:=((af _ _ (by first|omega|(simp;done)|(simp;omega))).trans (by first|assumption|(refine Wu _ _ _ _ ?_ ?_<;>assumption)|((refine YY _ _ _ _ _ ?_);(simp;done))|((refine Ws _ _ _ _ _ _ ?_);(simp;done)))));(try have xq5:w2.cell? ⟨w1.heap.size,1,none⟩=some (.int .i64 0):=((ae _ _ (by first|omega|(simp;done)|(simp;omega))).trans (by first|assumption|(refine Eq.trans (Yi _ _ _ _ _ ?_ ?_) rfl<;>assumption)|((refine Eq.trans (Zc _ _ _ _ _ ?_) rfl);(simp;done))|((refine Eq.trans (XZ _ _ _ _ _ _ ?_) rfl);(simp;done)))));(try have yq5:w2.frozen? ⟨w1.heap.size,1,none⟩=false:=((af _ _ (by first|omega|(simp;done)|(simp;omega))).trans (by first|assumption|(refine Wu _ _ _ _ ?_ ?_<;>assumption)|((refine YY _ _ _ _ _ ?_);(simp;done))|((refine Ws _ _ _ _ _ _ ?_);(simp;done)))));(try have xq6:w2.cell? ⟨(w1.heap.size+1),0,none⟩=some (.int .i64 0):=((ae _ _ (by first|omega|(simp;done)|(simp;omega))).trans (by first|assumption|(refine Eq.trans (Yi _ _ _ _ _ ?_ ?_) rfl<;>assumption)|((refine Eq.trans (Zc _ _ _ _ _ ?_) rfl);(simp;done))|((refine Eq.trans (XZ _ _ _ _ _ _ ?_) rfl);(simp;done)))));(try have yq6:w2.frozen? ⟨(w1.heap.size+1),0,none⟩=false:=((af _ _ (by first|omega|(simp;done)|(simp;omega))).trans (by first|assumption|(refine Wu _ _ _ _ ?_ ?_<;>assumption)|((refine YY _ _ _ _ _ ?_);(simp;done))|((refine Ws _ _ _ _ _ _ ?_);(simp;done)))));(try have xq7:w2.cell? ⟨(w1.heap.size+1),1,none⟩=some (.int .i64 0):=((ae _ _ (by first|omega|(simp;done)|(simp;omega))).trans (by first|assumption|(refine Eq.trans (Yi _ _ _ _ _ ?_ ?_) rfl<;>assumption)|((refine Eq.trans (Zc _ _ _ _ _ ?_) rfl);(simp;done))|((refine Eq.trans (XZ _ _ _ _ _ _ ?_) rfl);(simp;done)))));(try have yq7:w2.frozen? ⟨(w1.heap.size+1),1,none⟩=false:=((af _ _ (by first|omega|(simp;done)|(simp;omega))).trans (by first|assumption|(refine Wu _ _ _ _ ?_ ?_<;>assumption)|((refine YY _ _ _ _ _ ?_);(simp;done))|((refine Ws _ _ _ _ _ _ ?_);(simp;done)))));clear az ae af))
  all_goals
   go_wp2_with fail
   go_meet;refine⟨_,_,?_,?_,rfl,rfl,?_,?_,?_,?_,?_⟩
   all_goals first
    |omega
    |(simp[go_sem, *];done)
    |(repeat' (first|exact QQ _ _|refine SE ?_ ?_|refine WU ?_ _|refine zDh ?_ dR.out|refine zDh ?_ dS.out|refine U7 ?_|refine zQs ?_|omega|(simp;omega)))
 obtain⟨g6,g7,x6,x7,rfl,rfl,q0,q1,q2,q3,ay⟩:=hcut;have bG:=hid (aH.out wc ay);obtain⟨A3,hsl,hcut⟩:=UJ ZF Tryz.underlying25 XA (some ⟨ga,oa,none⟩) a.length ca (k:Int) k rfl (by omega) ax;have dP:Hid (∀W,Below w.heap.size w W->Calls Tryz.prog 99 #[.slice A3 k ca] W (Wl W (a.take k))):=fun W h=>zEe (a.take k) W _ (hcut W _ a (HA.out.below h h.size)) (by simp;omega)
 have aZ:g6<wc.heap.size:=World.block_lt_of_cell? wc _ q0;have aY:g7<wc.heap.size:=World.block_lt_of_cell? wc _ q2;have y6:g6≠w.heap.size:=by omega
 have y7:g7≠w.heap.size:=by omega
 have y8:w.heap.size≠g6:=by omega
 have y9:w.heap.size≠g7:=by omega
 have dO:Hid ((a.take k).length=k):=by show _=_;simp;omega
 have KC:Hid (∀W,Below wc.heap.size wc W->(W.cell? ⟨g6,0,none⟩=some (.int .i64 a[k])/\W.cell? ⟨g6,1,none⟩=some (.int .i64 ea)/\W.cell? ⟨g7,0,none⟩=some (.int .i64 b[k])/\W.cell? ⟨g7,1,none⟩=some (.int .i64 eb)) /\
   ((W.cell? ⟨w.heap.size,0,none⟩=some (.slice none 0 0)/\W.cell? ⟨w.heap.size,1,none⟩=some (.int .i64 0)/\W.cell? ⟨w.heap.size,2,none⟩=some (.int .i64 0))/\(W.frozen? ⟨w.heap.size,0,none⟩=false/\W.frozen? ⟨w.heap.size,1,none⟩=false/\W.frozen? ⟨w.heap.size,2,none⟩=false)/\Below w.heap.size w W/\w.heap.size<W.heap.size)):=by
  intro W hW;have hc:=(bcell hW).1;exact⟨⟨(hc _ _ aZ).trans q0,(hc _ _ aZ).trans q1,(hc _ _ aY).trans q2,(hc _ _ aY).trans q3⟩,aH.out W (ay.trans (hW.mono ay.size))⟩
 have aK:Hid (YC a b=(a.take k,min a[k] b[k],max ea eb)):=by show _=_;rw[bN.out,bD.out,bK.out,bJ.out,bA.out,bz.out]
 have hkk:(k:Int)<=(ca:Int):=by omega
 clear hcut ay
 go_wp2_with fail
 clear dL dI dK dH dJ dG aR aP aQ aO bM bL bI bH ia ib aJ aI aF aD ax aG dz dx qa qb bA bz bK bJ HA HB bC bB bN bD HR cu bZ bY bW bU bR bQ bP cB dF dE dD dC ai aH;generalize a[k]=va at *;generalize b[k]=vb at *;obtain⟨mn,aX⟩:∃mn,(if vb<va then vb else va)=mn:=⟨_,rfl⟩;obtain⟨mx,aW⟩:∃mx,(if ea<eb then eb else ea)=mx:=⟨_,rfl⟩;have ah:Hid (YC a b=(a.take k,mn,mx)):=by
  show _=_;rw[aK.out,<-aX,<-aW];congr 2
  ·split<;>omega
  split<;>omega
 go_region_held3 (fun w'=>w'.cell? ⟨g6,0,none⟩=some (.int .i64 va)/\w'.cell? ⟨g6,1,none⟩=some (.int .i64 ea)/\w'.cell? ⟨g7,0,none⟩=some (.int .i64 vb)/\w'.cell? ⟨g7,1,none⟩=some (.int .i64 eb)) (go_keep) (first
  |(go_at_call 99;refine(dP.out _ (zQs bG.out.2.2.1)).mono ?_;rintro e w5 ⟨v5,rfl,aC,bi⟩;obtain⟨A5,c5,aU⟩:=(aC.ints (S:=fun _=>True) (fun _ _ _=>trivial)).form;rw[dO.out] at aU;subst aU;have dN:=hid aC;obtain⟨⟨p0,p1,p2,p3⟩,⟨e0,e1,e2⟩,⟨f0,f1,f2⟩,bg,hzw⟩:=KC.out w5 (zI3 bi);have dQ:=hid bg;have aL:=hid (QS e0 (QS e1 e2));clear aC bi bg;dsimp only))
 all_goals
  go_wp2_with fail
  generalize hW:((w5.setCell _ (.slice A5 k c5)).setCell _ (.int .i64 mn)).setCell _ (.int .i64 mx)=W;obtain⟨⟨r0,r1,r2⟩,rz,rb,ro⟩:=three aL.out.1 aL.out.2.1 aL.out.2.2 _ _ _ hW.symm;have hwz:=bG.out.2.2.2;have dU:=hid (rb w.heap.size w (QT _) dQ.out);have HI:Hid (Z0 W (fun j=>w.heap.size<=j/\j<W.heap.size) (a.take k) (.slice A5 k c5)):=(dN.out.ints (S:=fun j=>wc.heap.size<=j/\j<w5.heap.size) (fun j h1 h2=>⟨h1,h2⟩)).keep (fun p hp=>ro p (by have:=hp.1;omega)) (fun j hj=>⟨by have:=hj.1;omega,by have:=hj.2;omega⟩);clear hW aX aW ro rb;refine bodyPost_ret (v:=.agg #[.slice A5 k c5,.int .i64 mn,.int .i64 mx]) (by simp[results,Tryz.results142,go_sem,r0,r1,r2]) rfl ?_;exact⟨.slice A5 k c5,by rw[ah.out],by rw[ah.out];exact HI.out,dU.out⟩
