/- T -/
import Derived.Test.YthpngeboknmllaaGreatQ6048
import Derived.Test.YthpngeboknmllaaGreatQ6340
import Derived.Test.YthpngeboknmllaaGreatQb5e2
import Derived.Deep.DeepCutAuto
import Derived.Lib.Strings
set_option linter.unusedVariables false
set_option linter.unusedSimpArgs false
set_option maxHeartbeats 4000000
set_option maxRecDepth 100000
namespace Go.Proofs.YthpngeboknmllaaGreat
open Go.RowKit
theorem Rn:(Tryz.prog.info? 24).map (fun i=>(i.zero,i.size,i.bytes))=some (some (.agg #[.int .i64 0,.string ⟨#[]⟩,.int .i64 0,.slice none 0 0]),4,56):=by kernel_rfl
def Zq (w:World) (b:Nat) (S:Nat->Prop) (ts:List Z9) (v:Value):Prop:=∃cs,w.ownsRow b 24 4 v ts.length cs/\ZG Z6 w S ts cs
theorem Zq.rows {w:World} {b:Nat} {S:Nat->Prop} {ts:List Z9} {v:Value} (h:Zq w b S ts v) (hB:∀k,S k->k<w.heap.size):Z8 Z6 w (Lt w.heap.size) ts v:=by
 obtain⟨cs,h1,h2⟩:=h;exact Z8.of_own (E:=Z6) h1 (fun k hk=>(h1.lt k hk).2) (h2.keep (Wi _ _) hB)
theorem Zq.empty (w:World) (S:Nat->Prop):Zq (w.alloc (.cells #[] 24)) w.heap.size S [] (.slice (some ⟨w.heap.size,0,none⟩) 0 0) :=
 ⟨[],World.ownsRow_made (base:=w.heap.size) (e:=24) (size:=4) w #[] 0 (Qi _) (Qj _) rfl,rfl⟩
theorem Zq.below {w w':World} {b:Nat} {S:Nat->Prop} {ts:List Z9} {v:Value} (h:Zq w b S ts v) (hB:∀k,S k->k<w.heap.size) (hb:Below w.heap.size w w'):Zq w' b S ts v:=by
 obtain⟨cs,h1,h2⟩:=h;exact⟨cs,QF _ h1 hb,h2.keep (fun p hp=>hb.cell (hB _ hp)) (fun _ h=>h)⟩
theorem Zq.form {w:World} {b:Nat} {S:Nat->Prop} {ts:List Z9} {v:Value} (h:Zq w b S ts v):∃A c,v=.slice A ts.length c:=by
 obtain⟨cs,⟨_,h1⟩,_⟩:=h;rcases h1 with ⟨rfl,h0⟩|⟨g,cap,cur,rfl,_⟩
 ·exact⟨none,0,by rw[h0]⟩
 exact⟨_,_,rfl⟩
theorem Zq.some_ {w:World} {b:Nat} {S:Nat->Prop} {ts:List Z9} {v:Value} (h:Zq w b S ts v) (h0:0<ts.length):∃g c,v=.slice (some ⟨g,0,none⟩) ts.length c/\b<=g/\g<w.heap.size/\∀j,j<ts.length*4->(∃u,w.cell? ⟨g,j,none⟩=some u)/\w.frozen? ⟨g,j,none⟩=false:=by
 obtain⟨cs,⟨hl,h1⟩,_⟩:=h;rcases h1 with ⟨rfl,h1⟩|⟨g,cap,aa,rfl,hg,hh,hn,hm,hc,hx⟩
 ·omega
 refine⟨g,cap,rfl,hg,(Array.getElem?_eq_some_iff.1 hh).1,fun j hj=>⟨⟨aa[j]'(by rw[hc];have:ts.length*4<=cap*4:=Nat.mul_le_mul_right _ hn;omega),?_⟩,?_⟩⟩
 ·rw[cell_of_row w g j aa _ (0,0) hh];exact Array.getElem?_eq_getElem _
 simp[World.frozen?,hh]
section
variable {w:World} {b:Nat} {S:Nat->Prop} {xss yss:List Z9} {v:Value}
theorem zJf {w':World} {v':Value} {cs rs:List Value} (ae:∀k,S k->k<b) (h2:ZG Z6 w S xss cs) (aa:ZG Z6 w S yss rs)
  (h3:w'.ownsRow b 24 4 v' (xss.length+yss.length) (cs++rs)) (hb:Below b w w'):Zq w' b S (xss++yss) v' :=
 ⟨cs++rs,by rw[List.length_append];exact h3,(h2.append aa).keep (fun p hp=>hb.cell (ae _ hp)) (fun _ h=>h)⟩
theorem Wd {ops:Array Oper} {rest:List Oper} {o:Oper} {a:Act} {Q:Exit->Act->World->Prop} (az:o.guard=none) (s x:Operand)
  (ho:o.op=.call { callee:=.builtin .append,args:=#[s,x],argTypes:=#[22,22] })
  (b:Nat) (S:Nat->Prop) (aA:∀k,S k->k<b) (v:Value) (xss yss:List Z9) (hs:a.eval s=v) (aa:Zq w b S xss v) (A:Option Addr) (m c:Nat) (hx:a.eval x=.slice A m c) (hr:Z8 Z6 w S yss (.slice A m c))
  (af:xss.length+yss.length<=1000000000) (hb:b<=w.heap.size)
  (h:∀v' w',Zq w' b S (xss++yss) v'->Below b w w'->wpList Tryz.prog ops Q rest (a.put o.dst v') w'):wpList Tryz.prog ops Q (o::rest) a w:=by
 obtain⟨i0,ay,au,ak,aj⟩:=info_parts Rn;obtain⟨A',cap',rs,e,h1,h2,av,ae⟩:=hr;injection e with e1 e2 e3
 subst e1 e2 e3;obtain⟨cs,ag,ax⟩:=aa;have hl:=ae.len;refine TF w az s x 22 ho b 24 i0 _ 4 56 Tryz.underlying22 ay au ak aj rfl (by omega) v _ _ hs ag _ A _ c rs hx hl av ae.one (by simp only[maxLen];omega) (by omega) hb ?_;intro v' w' h3 h4 h5;have ah:=Un _ ag h4 hb;exact h v' w' (zJf aA ax ae h3 ah) ah
theorem zPh {ops:Array Oper} {o:Oper} {a:Act} {K:Act->World->Prop} {Q:Exit->Act->World->Prop} {E:Prop} (az:o.guard=none) (s x:Operand)
  (ho:o.op=.call { callee:=.builtin .append,args:=#[s,x],argTypes:=#[22,22] })
  (b:Nat) (S:Nat->Prop) (aA:∀k,S k->k<b) (v:Value) (xss yss:List Z9) (hs:a.eval s=v) (aa:Zq w b S xss v) (A:Option Addr) (m c:Nat) (hx:a.eval x=.slice A m c) (hr:Z8 Z6 w S yss (.slice A m c))
  (af:xss.length+yss.length<=1000000000) (hb:b<=w.heap.size)
  (h:∀v' w',Zq w' b S (xss++yss) v'->Below b w w'->K (a.put o.dst v') w') :
  if Region.wanted o (yielded ops a.tmps)=true then Oper.wp Tryz.prog o a w K Q else E:=by
 obtain⟨i0,ay,au,ak,aj⟩:=info_parts Rn;obtain⟨A',cap',rs,e,h1,h2,av,ae⟩:=hr;injection e with e1 e2 e3
 subst e1 e2 e3;obtain⟨cs,ag,ax⟩:=aa;have hl:=ae.len;refine zC6 w az s x 22 ho b 24 i0 _ 4 56 Tryz.underlying22 ay au ak aj rfl (by omega) v _ _ hs ag _ A _ c rs hx hl av ae.one (by simp only[maxLen];omega) (by omega) hb ?_;intro v' w' h3 h4 h5;have ah:=Un _ ag h4 hb;exact h v' w' (zJf aA ax ae h3 ah) ah
end
theorem Xy {w:World} {b o:Nat} {x0 x1 x2 x3:Value} (d0:w.cell? ⟨b,o,none⟩=some x0) (d1:w.cell? ⟨b,o+1,none⟩=some x1) (d2:w.cell? ⟨b,o+2,none⟩=some x2) (d3:w.cell? ⟨b,o+3,none⟩=some x3) (y0 y1 y2 y3:Value) {W:World}
  (hW:W=(((w.setCell ⟨b,o,none⟩ y0).setCell ⟨b,o+1,none⟩ y1).setCell ⟨b,o+2,none⟩ y2).setCell ⟨b,o+3,none⟩ y3) :
  (W.cell? ⟨b,o,none⟩=some y0/\W.cell? ⟨b,o+1,none⟩=some y1/\W.cell? ⟨b,o+2,none⟩=some y2/\W.cell? ⟨b,o+3,none⟩=some y3)/\W.heap.size=w.heap.size/\(∀B a,B<=b->Below B a w->Below B a W) /\
  (∀p:Addr,p.block≠b->W.cell? p=w.cell? p)/\(∀j,j<o\/o+4<=j->W.cell? ⟨b,j,none⟩=w.cell? ⟨b,j,none⟩)/\(∀p:Addr,W.frozen? p=w.frozen? p):=by
 have ne:∀(i j:Nat),i≠j->(⟨b,i,none⟩:Addr)≠⟨b,j,none⟩:=fun i j h e=>h (by injection e)
 have f:∀(p:Addr) (j:Nat),p.block≠b->(⟨b,j,none⟩:Addr)≠p:=fun p j h e=>h (by rw[<-e])
 subst hW;refine⟨⟨?_,?_,?_,?_⟩,by simp[World.setCell],fun B a hB h=>(((h.setCell hB _).setCell hB _).setCell hB _).setCell hB _,fun p hp=>?_,fun j hj=>?_,fun p=>?_⟩
 ·rw[World.cell?_setCell_other (h:=ne _ _ (by omega)),World.cell?_setCell_other (h:=ne _ _ (by omega)),World.cell?_setCell_other (h:=ne _ _ (by omega)),World.cell?_setCell_same (h:=d0)]
 ·rw[World.cell?_setCell_other (h:=ne _ _ (by omega)),World.cell?_setCell_other (h:=ne _ _ (by omega))];exact World.cell?_setCell_same _ _ _ (by rw[World.cell?_setCell_other (h:=ne _ _ (by omega))];exact d1)
 ·rw[World.cell?_setCell_other (h:=ne _ _ (by omega))];exact World.cell?_setCell_same _ _ _ (by rw[World.cell?_setCell_other (h:=ne _ _ (by omega)),World.cell?_setCell_other (h:=ne _ _ (by omega))];exact d2)
 ·exact World.cell?_setCell_same _ _ _ (by rw[World.cell?_setCell_other (h:=ne _ _ (by omega)),World.cell?_setCell_other (h:=ne _ _ (by omega)),World.cell?_setCell_other (h:=ne _ _ (by omega))];exact d3)
 ·rw[World.cell?_setCell_other (h:=f p _ hp),World.cell?_setCell_other (h:=f p _ hp),World.cell?_setCell_other (h:=f p _ hp),World.cell?_setCell_other (h:=f p _ hp)]
 ·rw[World.cell?_setCell_other (h:=ne _ _ (by omega)),World.cell?_setCell_other (h:=ne _ _ (by omega)),World.cell?_setCell_other (h:=ne _ _ (by omega)),World.cell?_setCell_other (h:=ne _ _ (by omega))]
 rw[World.frozen?_setCell,World.frozen?_setCell,World.frozen?_setCell,World.frozen?_setCell]
theorem Zq.put_ {w Y:World} {b g n c i:Nat} {S:Nat->Prop} {ts:List Z9} {k:Z9} {u:Value} (h:Zq w b S ts (.slice (some ⟨g,0,none⟩) n c)) (hi:i<ts.length) (hk:Zk k) (ak:Z8 Z6 Y S k.kids u) (hY:Zr S w Y)
  (d0:Y.cell? ⟨g,i*4,none⟩=some (.int .i64 k.kind)) (d1:Y.cell? ⟨g,i*4+1,none⟩=some (.string k.text)) (d2:Y.cell? ⟨g,i*4+2,none⟩=some (.int .i64 k.cols)) (d3:Y.cell? ⟨g,i*4+3,none⟩=some u)
  (ho:∀j,j<i*4\/i*4+4<=j->Y.cell? ⟨g,j,none⟩=w.cell? ⟨g,j,none⟩):Z8 Z6 Y (fun q=>S q\/q=g) (ts.set i k) (.slice (some ⟨g,0,none⟩) n c):=by
 obtain⟨cs,h1,h2⟩:=h;have af:=h2.len;have h3:Z8 Z6 w (fun q=>S q\/q=g) ts (.slice (some ⟨g,0,none⟩) n c):=Z8.of_own (E:=Z6) h1 (fun q hq=>by simp[Value.ownBlock] at hq;exact .inr hq.symm) (h2.keep (Wi _ _) (fun q hq=>.inl hq));obtain⟨A',c',cs',e,h4,h5,h6,h7⟩:=h3;injection e with e1 e2 e3
 subst e1 e2 e3;have ah:ZG Z6 Y (fun q=>S q\/q=g) ts cs:=h2.keep hY (fun q hq=>.inl hq);have hr:∀j x,cs[j]?=some x->w.cell? ⟨g,j,none⟩=some x:=fun j x hx=>by
  rcases h1.2 with ⟨e,_⟩|⟨g',cap,au,e,hg,hh,p1,p2,p3,p4⟩
  ·cases e
  injection e with e1 _ _
  injection e1 with e1
  injection e1 with e1 _ _
  subst e1;rw[cell_of_row w g j au _ (0,0) hh];rw[<-p4,List.getElem?_take] at hx;split at hx
  ·simpa using hx
  cases hx
 have hE:Z6.size=4:=rfl;rw[hE] at af;have ae:ZG Z6 Y (fun q=>S q\/q=g) (ts.take i++k::ts.drop (i+1)) (cs.take (i*4)++([.int .i64 k.kind,.string k.text,.int .i64 k.cols,u]++cs.drop ((i+1)*4))):=by
  refine(ah.take i).append ⟨_,_,rfl,Yl.2 ⟨u,rfl,hk.1,hk.2.1,hk.2.2,ak.keep (Wi _ _) (fun q hq=>.inl hq)⟩,ah.drop (i+1)⟩
 have aa:ts.set i k=ts.take i++k::ts.drop (i+1):=List.set_eq_take_append_cons_drop.trans (if_pos hi);rw[aa];refine⟨some ⟨g,0,none⟩,c,_,by rw[<-aa,List.length_set],by rw[<-aa,List.length_set];exact h4,h5,fun _=>⟨g,0,rfl,.inr rfl,fun j x hx=>?_⟩,ae⟩;rw[Nat.zero_add];have aj:(cs.take (i*4)).length=i*4:=by rw[List.length_take];omega
 rcases Nat.lt_or_ge j (i*4) with hj|hj
 ·rw[List.getElem?_append_left (by omega),List.getElem?_take,if_pos hj] at hx;rw[ho j (.inl hj)];exact hr j x hx
 rw[List.getElem?_append_right (by omega),aj] at hx;rcases Nat.lt_or_ge j (i*4+4) with ag|ag
 ·rw[List.getElem?_append_left (by simp;omega)] at hx;obtain⟨q,rfl⟩:∃q,j=i*4+q:=⟨j-i*4,by omega⟩;rw[Nat.add_sub_cancel_left] at hx
  match q,hx,ag with
  |0,hx,_=>cases hx;exact d0
  |1,hx,_=>cases hx;exact d1
  |2,hx,_=>cases hx;exact d2
  |3,hx,_=>cases hx;exact d3
 rw[List.getElem?_append_right (by simp;omega)] at hx;rw[ho j (.inr ag)];refine hr j x ?_;rw[List.getElem?_drop] at hx;rw[<-hx];congr 1;simp;omega
theorem ZW (w:World) (o:Obj):Below w.heap.size w (w.alloc o):=(Qg _ _).alloc (Qi _) _
theorem Zy {W X:World} (h:Below W.heap.size W X) (o:Obj):Below W.heap.size W (X.alloc o):=h.alloc h.size o
theorem Zo {W X Y:World} (h:Below W.heap.size W X) (hb:Below X.heap.size X Y):Below W.heap.size W Y:=h.trans (hb.mono h.size)
theorem ZT (W:World) (arr:Array Value) (T:TypeId) (b o:Nat) (hb:b=W.heap.size):(W.alloc (.cells arr T)).cell? ⟨b,o,none⟩=arr[o]?:=by subst hb;exact World.cell?_alloc_new _ _ _ _
theorem XG (W:World) (arr:Array Value) (T:TypeId) (b o:Nat) (hb:b=W.heap.size):(W.alloc (.cells arr T)).frozen? ⟨b,o,none⟩=false:=by subst hb;exact World.frozen?_alloc_new _ _ _ _
theorem oldC (W:World) (B:Obj) (b o:Nat) (x:Option Value) (hb:b<W.heap.size) (h:W.cell? ⟨b,o,none⟩=x):(W.alloc B).cell? ⟨b,o,none⟩=x:=((ZW W B).cell (p:=⟨b,o,none⟩) hb).trans h
theorem oldF (W:World) (B:Obj) (b o:Nat) (hb:b<W.heap.size) (h:W.frozen? ⟨b,o,none⟩=false):(W.alloc B).frozen? ⟨b,o,none⟩=false:=((ZW W B).frozen (p:=⟨b,o,none⟩) hb).trans h
theorem Y0 {w:World} {a:Addr} {v:Value} (h:w.cell? a=some v):a.block<w.heap.size:=by
 rcases Nat.lt_or_ge a.block w.heap.size with h1|h1
 ·exact h1
 simp[World.cell?,Array.getElem?_eq_none h1] at h
def XC (S:Nat->Prop) (w:World) (t:Z9) (e:Ending) (w':World):Prop :=
 ∃v,e=.returned (.agg #[.int .i64 t.kind,.string t.text,.int .i64 t.cols,v])/\Z8 Z6 w' (fun q=>S q\/w.heap.size<=q/\q<w'.heap.size) t.kids v/\Below w.heap.size w w'
def Y3 (t:Z9) (i:Nat) (k:Z9):Z9:=.mk t.kind t.text t.cols (t.kids.set i k)
def ZI (W:World) (b:Nat) (k:Int) (s:ByteArray) (c:Int) (v:Value):Prop :=
 W.cell? ⟨b,0,none⟩=some (.int .i64 k)/\W.cell? ⟨b,1,none⟩=some (.string s)/\W.cell? ⟨b,2,none⟩=some (.int .i64 c)/\W.cell? ⟨b,3,none⟩=some v
theorem ZI.keep {W W':World} {b:Nat} {k:Int} {s:ByteArray} {c:Int} {v:Value} (h:ZI W b k s c v) (hk:∀o,W'.cell? ⟨b,o,none⟩=W.cell? ⟨b,o,none⟩):ZI W' b k s c v :=
 ⟨(hk 0).trans h.1,(hk 1).trans h.2.1,(hk 2).trans h.2.2.1,(hk 3).trans h.2.2.2⟩
theorem ZI.below {W W':World} {B b:Nat} {k:Int} {s:ByteArray} {c:Int} {v:Value} (h:ZI W b k s c v) (hb:Below B W W') (hB:b<B):ZI W' b k s c v:=h.keep fun o=>hb.cell (p:=⟨b,o,none⟩) hB
theorem ZI.new (w:World) (k:Int) (s:ByteArray) (c:Int) (v:Value) (T:TypeId):ZI (w.alloc (Obj.cells #[.int .i64 k,.string s,.int .i64 c,v] T)) w.heap.size k s c v:=by
 refine⟨?_,?_,?_,?_⟩<;>rw[World.cell?_alloc_new]<;>rfl
def Yy (W:World) (b:Nat):Prop:=W.frozen? ⟨b,0,none⟩=false/\W.frozen? ⟨b,1,none⟩=false/\W.frozen? ⟨b,2,none⟩=false/\W.frozen? ⟨b,3,none⟩=false
theorem Yy.new (w:World) (arr:Array Value) (T:TypeId):Yy (w.alloc (Obj.cells arr T)) w.heap.size :=
 ⟨XG _ _ _ _ _ rfl,XG _ _ _ _ _ rfl,XG _ _ _ _ _ rfl,XG _ _ _ _ _ rfl⟩
theorem Yy.below {W W':World} {B b:Nat} (h:Yy W b) (hb:Below B W W') (hB:b<B):Yy W' b :=
 ⟨(hb.frozen (p:=⟨b,0,none⟩) hB).trans h.1,(hb.frozen (p:=⟨b,1,none⟩) hB).trans h.2.1,(hb.frozen (p:=⟨b,2,none⟩) hB).trans h.2.2.1,(hb.frozen (p:=⟨b,3,none⟩) hB).trans h.2.2.2⟩
theorem zEd (t k:Z9) (i:Nat) (A B:Option Addr) (cap cb:Nat) (w:World) (S:Nat->Prop) (hS:∀q,S q->q<w.heap.size) (hi:i<t.kids.length) (bC:t.kids.length<=1000000) (hk:Zk k) (hv:Z8 Z6 w S t.kids (.slice A t.kids.length cap)) (aM:Z8 Z6 w S k.kids (.slice B k.kids.length cb)) :
  Calls Tryz.prog 80 #[.agg #[.int .i64 t.kind,.string t.text,.int .i64 t.cols,.slice A t.kids.length cap],.int .i64 i,.agg #[.int .i64 k.kind,.string k.text,.int .i64 k.cols,.slice B k.kids.length cb]] w (XC S w (Y3 t i k)):=by
 obtain⟨tk,tx,tc,ts⟩:=t;have HK:Hid (Zk k):=hk;clear hk;obtain⟨kk,kx,kc,ks⟩:=k;simp only[Z9.kind,Z9.text,Z9.cols,Z9.kids,Y3] at *;have HV:=hid hv;have bY:=hid aM;have HI:=hid hi;generalize ag:((w.alloc (Obj.cells #[.int .i64 tk,.string tx,.int .i64 tc,.slice A ts.length cap] 24)).alloc (Obj.cells #[.int .i64 kk,.string kx,.int .i64 kc,.slice B ks.length cb] 24)).alloc (Obj.cells #[.int .i64 0,.string ⟨#[]⟩,.int .i64 0,.slice none 0 0] 24)=W0;have ay:W0.heap.size=w.heap.size+1+1+1:=by rw[<-ag];simp
 have aH:Below w.heap.size w W0:=by rw[<-ag];exact Zy (Zy (ZW _ _) _) _
 have aF:ZI W0 w.heap.size tk tx tc (.slice A ts.length cap):=by
  rw[<-ag];exact((ZI.new w _ _ _ _ _).below (ZW _ _) (by simp)).below (ZW _ _) (by simp;omega)
 have aP:ZI W0 (w.heap.size+1) kk kx kc (.slice B ks.length cb):=by
  rw[<-ag];have h:=(ZI.new (w.alloc (Obj.cells #[.int .i64 tk,.string tx,.int .i64 tc,.slice A ts.length cap] 24)) kk kx kc (.slice B ks.length cb) 24).below (ZW _ (Obj.cells #[.int .i64 0,.string ⟨#[]⟩,.int .i64 0,.slice none 0 0] 24)) (by simp);simpa using h
 have aO:ZI W0 (w.heap.size+1+1) 0 ⟨#[]⟩ 0 (.slice none 0 0)/\Yy W0 (w.heap.size+1+1):=by
  rw[<-ag];have h:=ZI.new ((w.alloc (Obj.cells #[.int .i64 tk,.string tx,.int .i64 tc,.slice A ts.length cap] 24)).alloc (Obj.cells #[.int .i64 kk,.string kx,.int .i64 kc,.slice B ks.length cb] 24)) 0 ⟨#[]⟩ 0 (.slice none 0 0) 24;have h2:=Yy.new ((w.alloc (Obj.cells #[.int .i64 tk,.string tx,.int .i64 tc,.slice A ts.length cap] 24)).alloc (Obj.cells #[.int .i64 kk,.string kx,.int .i64 kc,.slice B ks.length cb] 24)) #[.int .i64 0,.string ⟨#[]⟩,.int .i64 0,.slice none 0 0] 24;exact⟨by simpa using h,by simpa using h2⟩
 have aD:Yy W0 w.heap.size:=by
  rw[<-ag];exact((Yy.new w _ _).below (ZW _ _) (by simp)).below (ZW _ _) (by simp;omega)
 have cO:=hid aH;have bz:=hid aF;have cK:=hid aP;have bA:=hid aO;have bZ:=hid aD;have aB:=hid ay;have m3:=oldC W0 (.cells #[] 24) _ _ _ (by omega) aF.2.2.2;have f3:=oldF W0 (.cells #[] 24) _ _ (by omega) aD.2.2.2;have bR:=hid (Zq.empty W0 S);have ax:=hid hS;have aI:=hid (hv.keep (w':=W0.alloc (.cells #[] 24)) (fun q hq=>(Zy aH _).cell (hS _ hq)) (fun _ h=>h));have aC:Hid (w.heap.size<W0.heap.size):=by show _<_;omega
 have aK:Hid (0<ts.length):=by show _<_;omega
 have bq:Hid (w.heap.size<=W0.heap.size):=by show _<=_;omega
 clear hS hv aM aH aF aP aO aD hi ay;go_enter Tryz.func80,Tryz.ntmps80
 go_upto_region 2 with first
  |(
    refine Wd rfl (.tmp 7) (.tmp 9) rfl W0.heap.size S (fun q hq=>Qk (ax.out q hq) bq.out) _ [] ts rfl bR.out A ts.length cap rfl aI.out (by simp;omega) (by simp) ?_;intro v1 W1 az aQ;rw[List.nil_append] at az;have af:=hid ((ZW W0 (.cells #[] 24)).trans (aQ.mono (Qi _)));obtain⟨g,n1,rfl,ah,aA,aa⟩:=az.some_ aK.out;have bU:=hid az;have aL:=hid ah;have bu:=hid aA;have cB:=hid aa;have q3:=(bz.out.below af.out aC.out).2.2.2;have g3:=(bZ.out.below af.out aC.out).2.2.2;clear az aQ ah aA aa m3 f3)
 have bB:=aC.out;obtain⟨X,hX⟩:∃X,W1.setCell ⟨w.heap.size,3,none⟩ (.slice (some ⟨g,0,none⟩) ts.length n1)=X:=⟨_,rfl⟩;rw[hX];have aX:X.heap.size=W1.heap.size:=by rw[<-hX];simp[World.setCell]
 have av:∀p:Addr,p.block≠w.heap.size->X.cell? p=W1.cell? p:=fun p hp=>by rw[<-hX];exact World.cell?_setCell_other _ _ _ _ (fun e=>hp (by rw[<-e]))
 have aG:∀p:Addr,X.frozen? p=W1.frozen? p:=fun p=>by rw[<-hX];exact World.frozen?_setCell _ _ _ _
 have aY:Below w.heap.size w X:=by rw[<-hX];exact(cO.out.trans (af.out.mono bq.out)).setCell (Qi _) _
 have x3:X.cell? ⟨w.heap.size,3,none⟩=some (.slice (some ⟨g,0,none⟩) ts.length n1):=by rw[<-hX];exact World.cell?_setCell_same _ _ _ q3
 have ⟨y0,y1,y2,_⟩:=bz.out.below af.out aC.out;have x0:X.cell? ⟨w.heap.size,0,none⟩=some (.int .i64 tk):=by rw[<-hX];exact(World.cell?_setCell_other _ _ _ _ (by simp)).trans y0
 have x1:X.cell? ⟨w.heap.size,1,none⟩=some (.string tx):=by rw[<-hX];exact(World.cell?_setCell_other _ _ _ _ (by simp)).trans y1
 have x2:X.cell? ⟨w.heap.size,2,none⟩=some (.int .i64 tc):=by rw[<-hX];exact(World.cell?_setCell_other _ _ _ _ (by simp)).trans y2
 have bD:=aB.out;have ah:=aL.out;have aA:=bu.out;obtain⟨k0,k1,k2,k3⟩:=(cK.out.below af.out (by omega)).keep (fun o=>av ⟨w.heap.size+1,o,none⟩ (by simp));have bQ:Hid (ZI X (w.heap.size+1+1) 0 ⟨#[]⟩ 0 (.slice none 0 0)):=(bA.out.1.below af.out (by omega)).keep (fun o=>av ⟨w.heap.size+1+1,o,none⟩ (by simp;omega));have aN:=bA.out.2.below af.out (by omega);have ak:∀j,j<4->(∃u,X.cell? ⟨g,i*4+j,none⟩=some u)/\X.frozen? ⟨g,i*4+j,none⟩=false:=fun j hj=>by
  obtain⟨⟨u,h1⟩,h2⟩:=cB.out (i*4+j) (by have:=HI.out;omega);exact⟨⟨u,(av ⟨g,i*4+j,none⟩ (by show g≠_;omega)).trans h1⟩,(aG _).trans h2⟩
 obtain⟨⟨u0,s0⟩,l0⟩:=ak 0 (by omega);obtain⟨⟨u1,s1⟩,l1⟩:=ak 1 (by omega);obtain⟨⟨u2,s2⟩,l2⟩:=ak 2 (by omega);obtain⟨⟨u3,s3⟩,l3⟩:=ak 3 (by omega);rw[Nat.add_zero] at s0 l0;have aZ:=hid av;have bN:=hid aG;have bg:=hid aY;have bP:Hid (ZI X w.heap.size tk tx tc (.slice (some ⟨g,0,none⟩) ts.length n1)):=⟨x0,x1,x2,x3⟩;have cu:=hid aN;have bM:=hid aX;clear av aG aY hX ak y0 y1 y2 q3 g3 aN bD ah aA bB aX;have i5:(0:Int)<=(i:Int):=by omega
 have i6:(i:Int)<(ts.length:Int):=by have:=HI.out;omega
 go_upto_region 3 with fail
 generalize hY:((((X.setCell _ (.int .i64 kk)).setCell _ (.string kx)).setCell _ (.int .i64 kc)).setCell _ (.slice B ks.length cb))=Y;obtain⟨⟨d0,d1,d2,d3⟩,bG,aW,au,aU,aV⟩:=Xy s0 s1 s2 s3 _ _ _ _ hY.symm;have ah:=aL.out;have ay:=aB.out;have bW:=hid (bY.out.keep (w':=Y) (fun q hq=>(au q (by have:q.block<w.heap.size:=ax.out _ hq;omega)).trans (bg.out.cell (ax.out _ hq))) (fun _ h=>h));have aJ:Hid (Z8 Z6 Y (fun q=>S q\/q=g) (ts.set i (Z9.mk kk kx kc ks)) (.slice (some ⟨g,0,none⟩) ts.length n1)):=Zq.put_ bU.out HI.out HK.out bW.out (fun q hq=>by have h9:q.block<w.heap.size:=ax.out _ hq;exact(au q (by omega)).trans (aZ.out q (by omega))) d0 d1 d2 d3 (fun j hj=>(aU j hj).trans (aZ.out _ (by show g≠_;omega)));obtain⟨z0,z1,z2,z3⟩:=bP.out.keep (fun o=>au ⟨w.heap.size,o,none⟩ (by show w.heap.size≠g;omega));have bn:=bQ.out.keep (fun o=>au ⟨w.heap.size+1+1,o,none⟩ (by show w.heap.size+1+1≠g;omega));have ae:=hid bn;obtain⟨r0,r1,r2,r3⟩:=bn;obtain⟨p0,p1,p2,p3⟩:=cu.out;have aj:∀o,W1.frozen? ⟨w.heap.size+1+1,o,none⟩=false->Y.frozen? ⟨w.heap.size+1+1,o,none⟩=false:=fun o h=>(aV _).trans ((bN.out _).trans h)
 replace p0:=aj _ p0
 replace p1:=aj _ p1
 replace p2:=aj _ p2
 replace p3:=aj _ p3
 have bL:=hid (aW w.heap.size w (by omega) bg.out);have bH:Hid (g<Y.heap.size/\w.heap.size<Y.heap.size):=by show _/\_;have:=bu.out;have:=bM.out;omega
 clear hY bG aW au aU aV d0 d1 d2 d3 s0 s1 s2 s3 l0 l1 l2 l3 x0 x1 x2 x3 k0 k1 k2 k3 aj ay
 go_wp2_with fail
 generalize hZ:((((Y.setCell _ (.int .i64 tk)).setCell _ (.string tx)).setCell _ (.int .i64 tc)).setCell _ (.slice (some ⟨g,0,none⟩) ts.length n1))=Z;obtain⟨⟨e0,e1,e2,e3⟩,aR,aT,aS,_,_⟩:=Xy (o:=0) ae.out.1 ae.out.2.1 ae.out.2.2.1 ae.out.2.2.2 _ _ _ _ hZ.symm;simp only[Nat.zero_add] at e1 e2 e3;have bK:=hid (aT w.heap.size w (by omega) bL.out);have bJ:=hid aS;have bI:=hid aR;clear hZ aR aT aS;refine bodyPost_ret (v:=.agg #[.int .i64 tk,.string tx,.int .i64 tc,.slice (some ⟨g,0,none⟩) ts.length n1]) (by simp[results,Tryz.results80,go_sem,e0,e1,e2,e3]) rfl ?_;refine⟨_,rfl,aJ.out.keep (fun q hq=>bJ.out q ?_) (fun q hq=>?_),bK.out⟩
 ·have h9:S q.block\/q.block=g:=hq;have:=aB.out;rcases h9 with h9|h9
  ·have:=ax.out _ h9;omega
  omega
 have h9:S q\/q=g:=hq;have:=bH.out;have:=bI.out;have:=aL.out;have:=aB.out;rcases h9 with h9|h9
 ·exact .inl h9
 exact .inr ⟨by omega,by omega⟩
mutual
def Y9:Z9->Bool
 |.mk k s c ts=>YN k s&&Zp k c ts.length&&XV k ts
def XV (k:Int):List Z9->Bool
 |[]=>true
 |.mk k' s' c' ts'::ts=>!((k'==1)==(k==1))&&(YN k' s'&&Zp k' c' ts'.length&&XV k' ts')&&XV k ts
end
theorem UK (k:Int) (t:Z9) (ts:List Z9):XV k (t::ts)=(!((t.kind==1)==(k==1))&&Y9 t&&XV k ts):=by
 obtain⟨k',s',c',ts'⟩:=t;rw[XV,Y9];rfl
theorem zM3 (k:Int) {ts:List Z9} {i:Nat} (h:i<ts.length):XV k (ts.drop i)=(!((ts[i].kind==1)==(k==1))&&Y9 ts[i]&&XV k (ts.drop (i+1))):=by
 rw[List.drop_eq_getElem_cons h,UK]
theorem RU {w w':World} {B:Nat} (h:Below B w.drew w'):Below B w w':=⟨h.os,h.tape,h.output,h.size,h.block⟩
theorem zEl {α:Type} {E:YA α} {w:World} {xs:List α} {v:Value} (h:Z8 E w (Lt w.heap.size) xs v):Z8 E w.drew (Lt w.drew.heap.size) xs v:=h.keep (fun _ _=>rfl) (fun _ h=>h)
theorem UI (t:Z9):∀(w:World) (v:Value) (_:Z8 Z6 w (Lt w.heap.size) t.kids v) (_:t.text.size<=maxLen),
  Calls Tryz.prog 60 #[.agg #[.int .i64 t.kind,.string t.text,.int .i64 t.cols,v]] w fun e w'=>e=.returned (.bool (Y9 t))/\Below w.heap.size w w':=by
 induction t using Z9.ind with
 |h t ih =>
 obtain⟨tk,tx,tc,ts⟩:=t;intro w v hv aN;simp only[Z9.kind,Z9.text,Z9.cols,Z9.kids] at *;obtain⟨A,cap,rs,rfl,aP,az,aF,aG⟩:=hv;have aB:Hid (∀W,Calls Tryz.prog 100 #[.agg #[.int .i64 tk,.string tx,.int .i64 tc,.slice A ts.length cap]] W fun e w'=>e=.returned (.bool (YN tk tx))/\Below W.heap.size W w'):=fun W=>VC tk tc tx A ts.length cap W aN
 have aJ:Hid (∀W,Calls Tryz.prog 101 #[.agg #[.int .i64 tk,.string tx,.int .i64 tc,.slice A ts.length cap]] W fun e w'=>e=.returned (.bool (Zp tk tc ts.length))/\Below W.heap.size W w'):=fun W=>UV tk tc tx A ts.length cap W (by omega)
 unfold maxLen at az;have aO:ts.length<=9223372036854775807:=by omega
 have H:Hid (Zd w (Lt w.heap.size) A rs/\ZG Z6 w (Lt w.heap.size) ts rs):=⟨aF,aG⟩;have HC:Hid (Y9 (.mk tk tx tc ts)=(YN tk tx&&Zp tk tc ts.length&&XV tk ts)):=by show _=_;rw[Y9]
 generalize YN tk tx=b1 at *;generalize Zp tk tc ts.length=b2 at *;have af:Hid (Below w.heap.size w (w.alloc (Obj.cells #[.int .i64 tk,.string tx,.int .i64 tc,.slice A ts.length cap] 24))):=(Qg _ _).alloc (Qi _) _;have KB:Hid (∀W,Below (w.alloc (Obj.cells #[.int .i64 tk,.string tx,.int .i64 tc,.slice A ts.length cap] 24)).heap.size (w.alloc (Obj.cells #[.int .i64 tk,.string tx,.int .i64 tc,.slice A ts.length cap] 24)) W ->
   (W.cell? ⟨w.heap.size,0,none⟩=some (.int .i64 tk)/\W.cell? ⟨w.heap.size,1,none⟩=some (.string tx)/\W.cell? ⟨w.heap.size,2,none⟩=some (.int .i64 tc)/\W.cell? ⟨w.heap.size,3,none⟩=some (.slice A ts.length cap))/\w.heap.size<W.heap.size):=by
  intro W hW;have h:=(bcell hW).1;exact⟨⟨(h _ 0 (by simp)).trans (by rw[World.cell?_alloc_new];rfl),(h _ 1 (by simp)).trans (by rw[World.cell?_alloc_new];rfl),(h _ 2 (by simp)).trans (by rw[World.cell?_alloc_new];rfl),(h _ 3 (by simp)).trans (by rw[World.cell?_alloc_new];rfl)⟩,by have:=hW.size;simp at this;omega⟩
 clear aF aG;cases b1 with
 |
  false =>
  go_enter Tryz.func60,Tryz.ntmps60
  go_wp2_with fail
  refine(aB.out _).mono ?_;rintro e w1 ⟨rfl,aa⟩;have ah:=hid (af.out.trans (aa.mono af.out.size));clear aa
  go_wp2_with fail
  go_ret;exact⟨by rw[HC.out];rfl,ah.out⟩
 |true =>
 cases b2 with
 |
  false =>
  go_enter Tryz.func60,Tryz.ntmps60
  go_wp2_with fail
  refine(aB.out _).mono ?_;rintro e w1 ⟨rfl,aa⟩;have ah:=hid (af.out.trans (aa.mono af.out.size));obtain⟨⟨m0,m1,m2,m3⟩,z1⟩:=KB.out w1 aa;clear aa
  go_wp2_with fail
  refine(aJ.out _).mono ?_;rintro e w2 ⟨rfl,au⟩;have aD:=hid (ah.out.trans (au.mono ah.out.size));clear au
  go_wp2_with fail
  go_ret;exact⟨by rw[HC.out];rfl,aD.out⟩
 |
  true =>
  have aC:Hid (Y9 (.mk tk tx tc ts)=XV tk ts):=by show _=_;rw[HC.out];rfl
  go_enter Tryz.func60,Tryz.ntmps60
  go_wp2_with fail
  refine(aB.out _).mono ?_;rintro e w1 ⟨rfl,aa⟩;have ah:=hid aa;obtain⟨⟨m0,m1,m2,m3⟩,z1⟩:=KB.out w1 aa;clear aa
  go_wp2_with fail
  refine(aJ.out _).mono ?_;rintro e w2 ⟨rfl,au⟩;have aD:=hid (ah.out.trans (au.mono ah.out.size));clear au m0 m1 m2 m3 z1 HC
  go_wp2_with fail
  go_loopw [3] (fun i wr=>Below (w.alloc (Obj.cells #[.int .i64 tk,.string tx,.int .i64 tc,.slice A ts.length cap] 24)).heap.size (w.alloc (Obj.cells #[.int .i64 tk,.string tx,.int .i64 tc,.slice A ts.length cap] 24)) wr/\∃(k:Nat),k<=ts.length/\i=.int .i64 k/\XV tk (ts.drop k)=XV tk ts) (fun i _=>ts.length-(intOf i).toNat)
  case atStart=>exact⟨aD.out,0,Qj _,rfl,rfl⟩
  obtain⟨ax,k,hk,rfl,ae⟩:=hrel;have HR:=hid ae;have hb:Below w.heap.size w wr:=af.out.trans (ax.mono af.out.size);have aL:=hid ax;obtain⟨⟨m0,m1,m2,m3⟩,hz⟩:=KB.out wr ax;have HB:=hid hb;clear ae ax;by_cases aA:k<ts.length
  ·obtain⟨g,o,A',cap',aM,rfl,hg,c0,c1,c2,c3,_,_,hts,aI,aH,aj,ak⟩:=YW (H.out.1.keep (Zr.of_below hb (Qi _)) (Lt.mono hb.size)) (H.out.2.keep (Zr.of_below hb (Qi _)) (Lt.mono hb.size)) aA;have ay:ts[k]∈ts:=List.getElem_mem aA;have HT:=hid (zM3 tk aA);have av:g<wr.heap.size:=hg;have HV:Hid (Z8 Z6 wr (Lt wr.heap.size) ts[k].kids (.slice A' ts[k].kids.length cap')):=⟨A',cap',aM,rfl,aI,aH,aj,ak⟩;have i0:(k:Int)<(ts.length:Int):=by omega
   have KW:Hid (∀W,Below wr.heap.size wr W->Below (w.alloc (Obj.cells #[.int .i64 tk,.string tx,.int .i64 tc,.slice (some ⟨g,o,none⟩) ts.length cap] 24)).heap.size (w.alloc (Obj.cells #[.int .i64 tk,.string tx,.int .i64 tc,.slice (some ⟨g,o,none⟩) ts.length cap] 24)) W /\
     (W.cell? ⟨w.heap.size,0,none⟩=some (.int .i64 tk)/\W.cell? ⟨w.heap.size,3,none⟩=some (.slice (some ⟨g,o,none⟩) ts.length cap)) /\
     (W.cell? ⟨g,o+k*4,none⟩=some (.int .i64 ts[k].kind)/\W.cell? ⟨g,o+k*4+1,none⟩=some (.string ts[k].text)/\W.cell? ⟨g,o+k*4+2,none⟩=some (.int .i64 ts[k].cols)/\W.cell? ⟨g,o+k*4+3,none⟩=some (.slice A' ts[k].kids.length cap'))):=by
    intro W hW;have h:=(bcell hW).1;exact⟨aL.out.trans (hW.mono aL.out.size),⟨(h _ 0 hz).trans m0,(h _ 3 hz).trans m3⟩,(h _ _ av).trans c0,(h _ _ av).trans c1,(h _ _ av).trans c2,(h _ _ av).trans c3⟩
   have aK:Hid (∀W v,Z8 Z6 W (Lt W.heap.size) ts[k].kids v->Calls Tryz.prog 60 #[.agg #[.int .i64 ts[k].kind,.string ts[k].text,.int .i64 ts[k].cols,v]] W fun e w'=>e=.returned (.bool (Y9 ts[k]))/\Below W.heap.size W w'):=fun W v hv=>ih ts[k] ay W v hv hts
   clear aj ak hb aI aH hts ih;generalize ag:Y9 ts[k]=b3 at *;clear ag;cases hq1:(ts[k].kind==1)<;>cases hq2:(tk==1)
   case false.false|true.true =>
    rw[hq1,hq2] at HT;have HF:Hid (Y9 (.mk tk tx tc ts)=false):=by show _=_;rw[aC.out,<-HR.out,HT.out];rfl
    go_wp2_with fail
    go_quiet (fail)
    go_wp2_with fail
    go_ret;exact⟨by rw[HF.out];rfl,by first|exact HB.out|exact HB.out.trans (Below.mono ⟨rfl,rfl,rfl,Qi _,fun _ _=>rfl⟩ HB.out.size)⟩
   all_goals
    rw[hq1,hq2] at HT;cases b3
    ·have HF:Hid (Y9 (.mk tk tx tc ts)=false):=by show _=_;rw[aC.out,<-HR.out,HT.out];rfl
     go_wp2_with fail
     go_region_held3 (fun w'=>w'.cell? ⟨w.heap.size,0,none⟩=some (.int .i64 tk)/\w'.cell? ⟨w.heap.size,3,none⟩=some (.slice (some ⟨g,o,none⟩) ts.length cap)/\w'.cell? ⟨g,o+k*4,none⟩=some (.int .i64 ts[k].kind)/\w'.cell? ⟨g,o+k*4+1,none⟩=some (.string ts[k].text)/\w'.cell? ⟨g,o+k*4+2,none⟩=some (.int .i64 ts[k].cols)/\w'.cell? ⟨g,o+k*4+3,none⟩=some (.slice A' ts[k].kids.length cap')) (go_keep) (first
      |(go_at_call 60;refine(aK.out _ _ (zEl HV.out)).mono ?_;rintro e w3 ⟨rfl,ag⟩;obtain⟨p0,⟨p1,p2⟩,p3,p4,p5,p6⟩:=KW.out w3 (RU ag);have HP:=hid p0;clear ag p0))
     go_wp2_with fail
     go_ret;exact⟨by rw[HF.out];rfl,af.out.trans (HP.out.mono af.out.size)⟩
    have HF:Hid (XV tk (ts.drop (k+1))=XV tk ts):=by show _=_;rw[<-HR.out,HT.out];rfl
    go_wp2_with fail
    go_region_held3 (fun w'=>w'.cell? ⟨w.heap.size,0,none⟩=some (.int .i64 tk)/\w'.cell? ⟨w.heap.size,3,none⟩=some (.slice (some ⟨g,o,none⟩) ts.length cap)/\w'.cell? ⟨g,o+k*4,none⟩=some (.int .i64 ts[k].kind)/\w'.cell? ⟨g,o+k*4+1,none⟩=some (.string ts[k].text)/\w'.cell? ⟨g,o+k*4+2,none⟩=some (.int .i64 ts[k].cols)/\w'.cell? ⟨g,o+k*4+3,none⟩=some (.slice A' ts[k].kids.length cap')) (go_keep) (first
     |(go_at_call 60;refine(aK.out _ _ (zEl HV.out)).mono ?_;rintro e w3 ⟨rfl,ag⟩;obtain⟨p0,⟨p1,p2⟩,p3,p4,p5,p6⟩:=KW.out w3 (RU ag);have HP:=hid p0;clear ag p0))
    go_wp2_with fail
    go_roundw
    case rel=>exact⟨HP.out,k+1,by omega,by go_num,HF.out⟩
    case measure=>simp[intOf];omega
  have HF:Hid (Y9 (.mk tk tx tc ts)=true):=by show _=_;rw[aC.out,<-HR.out,List.drop_of_length_le (by omega),XV]
  go_wp2_with fail
  go_ret;exact⟨by rw[HF.out];rfl,HB.out⟩
def ZU (t:Z9):Bool:=(t.kind==1)&&Y9 t&&decide ((ZR t:Int)<=1000)&&decide ((Y4 t:Int)<=24)
def YS (W:World) (b:Nat) (k c:Int) (s:ByteArray) (v:Value):Prop :=
 W.cell? ⟨b,0,none⟩=some (.int .i64 k)/\W.cell? ⟨b,1,none⟩=some (.string s)/\W.cell? ⟨b,2,none⟩=some (.int .i64 c)/\W.cell? ⟨b,3,none⟩=some v
theorem YS.new (w:World) (k c:Int) (s:ByteArray) (v:Value):YS (w.alloc (Obj.cells #[.int .i64 k,.string s,.int .i64 c,v] 24)) w.heap.size k c s v :=
 ⟨by rw[World.cell?_alloc_new];rfl,by rw[World.cell?_alloc_new];rfl,by rw[World.cell?_alloc_new];rfl,by rw[World.cell?_alloc_new];rfl⟩
theorem YS.below {W W':World} {B b:Nat} {k c:Int} {s:ByteArray} {v:Value} (h:YS W b k c s v) (hb:Below B W W') (hB:b<B):YS W' b k c s v :=
 ⟨((bcell hb).1 _ _ hB).trans h.1,((bcell hb).1 _ _ hB).trans h.2.1,((bcell hb).1 _ _ hB).trans h.2.2.1,((bcell hb).1 _ _ hB).trans h.2.2.2⟩
theorem QN (t:Z9) (A:Option Addr) (cap:Nat) (w:World) (hv:Z8 Z6 w (Lt w.heap.size) t.kids (.slice A t.kids.length cap)) (ak:t.text.size<=maxLen) (aj:ZR t<=1000000000) :
  Calls Tryz.prog 29 #[.agg #[.int .i64 t.kind,.string t.text,.int .i64 t.cols,.slice A t.kids.length cap]] w fun e w'=>e=.returned (.bool (ZU t))/\Below w.heap.size w w':=by
 have C1:Hid (∀W,Below w.heap.size w W->Calls Tryz.prog 60 #[.agg #[.int .i64 t.kind,.string t.text,.int .i64 t.cols,.slice A t.kids.length cap]] W fun e w'=>e=.returned (.bool (Y9 t))/\Below W.heap.size W w'):=fun W hW=>UI t W _ (hv.below hW hW.size) ak
 have C2:Hid (∀W,Below w.heap.size w W->Calls Tryz.prog 61 #[.agg #[.int .i64 t.kind,.string t.text,.int .i64 t.cols,.slice A t.kids.length cap]] W fun e w'=>e=.returned (.int .i64 (ZR t))/\Below W.heap.size W w'):=fun W hW=>zQo t W _ (hv.below hW hW.size) aj
 have C3:Hid (∀W,Below w.heap.size w W->Calls Tryz.prog 62 #[.agg #[.int .i64 t.kind,.string t.text,.int .i64 t.cols,.slice A t.kids.length cap]] W fun e w'=>e=.returned (.int .i64 (Y4 t))/\Below W.heap.size W w'):=fun W hW=>zQn t W _ (hv.below hW hW.size) aj
 have HF:Hid (ZU t=((t.kind==1)&&Y9 t&&decide ((ZR t:Int)<=1000)&&decide ((Y4 t:Int)<=24))):=rfl;generalize Y9 t=b2 at *;generalize ZR t=n1 at *;generalize Y4 t=n2 at *;generalize ax:ZU t=b at *;obtain⟨tk,tx,tc,ts⟩:=t;simp only[Z9.kind,Z9.text,Z9.cols,Z9.kids] at *;have ae:Hid (Below w.heap.size w (w.alloc (Obj.cells #[.int .i64 tk,.string tx,.int .i64 tc,.slice A ts.length cap] 24))):=(Qg _ _).alloc (Qi _) _;have KB:Hid (∀W,Below (w.alloc (Obj.cells #[.int .i64 tk,.string tx,.int .i64 tc,.slice A ts.length cap] 24)).heap.size (w.alloc (Obj.cells #[.int .i64 tk,.string tx,.int .i64 tc,.slice A ts.length cap] 24)) W->YS W w.heap.size tk tc tx (.slice A ts.length cap)) :=
  fun W hW=>(YS.new w tk tc tx _).below hW (by simp)
 clear hv ak aj ax;cases h1:(tk==1) with
 |
  false =>
  have HG:Hid (b=false):=by show _=_;rw[HF.out,h1];rfl
  go_enter Tryz.func29,Tryz.ntmps29
  go_wp2_with fail
  go_ret;exact⟨by rw[HG.out];rfl,ae.out⟩
 |true =>
 cases b2 with
 |
  false =>
  have HG:Hid (b=false):=by show _=_;rw[HF.out];simp
  go_enter Tryz.func29,Tryz.ntmps29
  go_wp2_with fail
  refine(C1.out _ ae.out).mono ?_;rintro e w1 ⟨rfl,aa⟩;have af:=hid (ae.out.trans (aa.mono ae.out.size));clear aa
  go_wp2_with fail
  go_ret;exact⟨by rw[HG.out];rfl,af.out⟩
 |true =>
 by_cases h3:(n1:Int)<=1000;rotate_left
 ·have HG:Hid (b=false):=by show _=_;rw[HF.out,decide_eq_false h3];simp
  have d3:decide ((n1:Int)<=1000)=false:=decide_eq_false h3;clear h3;go_enter Tryz.func29,Tryz.ntmps29
  go_wp2_with fail
  refine(C1.out _ ae.out).mono ?_;rintro e w1 ⟨rfl,aa⟩;have af:=hid (ae.out.trans (aa.mono ae.out.size));obtain⟨m0,m1,m2,m3⟩:=KB.out w1 aa;clear aa
  go_wp2_with fail
  refine(C2.out _ af.out).mono ?_;rintro e w2 ⟨rfl,ag⟩;have ah:=hid (af.out.trans (ag.mono af.out.size));clear ag
  go_wp2_with fail
  go_ret;exact⟨by rw[HG.out];rfl,ah.out⟩
 have HG:Hid (b=decide ((n2:Int)<=24)):=by show _=_;rw[HF.out,h1,decide_eq_true h3];rfl
 go_enter Tryz.func29,Tryz.ntmps29
 go_wp2_with fail
 refine(C1.out _ ae.out).mono ?_;rintro e w1 ⟨rfl,aa⟩;have af:=hid (ae.out.trans (aa.mono ae.out.size));have av:=hid aa;obtain⟨m0,m1,m2,m3⟩:=KB.out w1 aa;clear aa
 go_wp2_with fail
 refine(C2.out _ af.out).mono ?_;rintro e w2 ⟨rfl,ag⟩;have ah:=hid (af.out.trans (ag.mono af.out.size));obtain⟨p0,p1,p2,p3⟩:=KB.out w2 (av.out.trans (ag.mono av.out.size));clear ag
 go_wp2_with fail
 refine(C3.out _ ah.out).mono ?_;rintro e w3 ⟨rfl,au⟩;have ay:=hid (ah.out.trans (au.mono ah.out.size));clear au
 go_wp2_with fail
 go_ret;exact⟨by rw[HG.out];rfl,ay.out⟩
def Z7 (ts:List Z9):Z9:=.mk 1 ⟨#[]⟩ 0 ts
theorem zHp (w:World) (A:Option Addr) (n c:Nat):Calls Tryz.prog 52 #[.slice A n c] w fun e w'=>e=.returned (.agg #[.int .i64 1,.string ⟨#[]⟩,.int .i64 0,.slice A n c])/\Below w.heap.size w w':=by
 go_enter Tryz.func52,Tryz.ntmps52
 go_wp2
 exact bodyPost_ret (v:=.agg #[.int .i64 1,.string ⟨#[]⟩,.int .i64 0,.slice A n c]) (by simp[results,Tryz.results52,go_sem]) rfl ⟨rfl,(Qg _ _).alloc (Qi _) _⟩
theorem zFi (ts:List Z9) (A:Option Addr) (cap:Nat) (w:World) (hv:Z8 Z6 w (Lt w.heap.size) ts (.slice A ts.length cap)) (af:ZQ ts<=100000000) :
  Calls Tryz.prog 68 #[.slice A ts.length cap] w fun e w'=>e=.returned (.bool (ZU (Z7 ts)))/\Below w.heap.size w w':=by
 have C1:Hid (∀W,Below w.heap.size w W->Calls Tryz.prog 29 #[.agg #[.int .i64 1,.string ⟨#[]⟩,.int .i64 0,.slice A ts.length cap]] W fun e w'=>e=.returned (.bool (ZU (Z7 ts)))/\Below W.heap.size W w') :=
  fun W hW=>QN (Z7 ts) A cap W (hv.below hW hW.size) (show (⟨#[]⟩:ByteArray).size<=maxLen from Qj _) (by unfold Z7;rw[ZR];omega)
 clear hv af;go_enter Tryz.func68,Tryz.ntmps68
 go_wp2_with fail
 refine(zHp _ _ _ _).mono ?_;rintro e w1 ⟨rfl,ae⟩;have aa:=hid ae;clear ae
 go_wp2_with fail
 refine(C1.out _ aa.out).mono ?_;rintro e w2 ⟨rfl,ag⟩
 go_wp2_with fail
 go_ret;exact⟨rfl,aa.out.trans (ag.mono aa.out.size)⟩
theorem Zq.rowsN {w:World} {b:Nat} {S:Nat->Prop} {ts:List Z9} {v:Value} (h:Zq w b S ts v):Z8 Z6 w (fun q=>S q\/b<=q/\q<w.heap.size) ts v:=by
 obtain⟨cs,h1,h2⟩:=h;exact Z8.of_own (E:=Z6) h1 (fun k hk=>.inr (h1.lt k hk)) (h2.keep (Wi _ _) (fun _ h=>.inl h))
theorem newer {w w':World} {S:Nat->Prop} {b:Nat} {l:List Z9} {v:Value} (h:Z8 Z6 w (fun q=>S q\/b<=q/\q<w.heap.size) l v) (hS:∀q,S q->q<w.heap.size) (hb:Below w.heap.size w w'):Z8 Z6 w' (fun q=>S q\/b<=q/\q<w'.heap.size) l v :=
 h.keep (fun q hq=>hb.cell (by rcases hq with hq|hq;exact hS _ hq;exact hq.2)) (fun q hq=>by rcases hq with hq|hq;exact .inl hq;exact .inr ⟨hq.1,Qk hq.2 hb.size⟩)
def Zj (t:Z9) (i:Nat) (l:List Z9):Z9:=Y3 t i (Z7 l)
theorem Xj {W X:World} (h:Below W.heap.size W X):Below W.heap.size W X.drew:=⟨h.os,h.tape,h.output,h.size,h.block⟩
theorem Xo {w w':World} {B:Nat} (h:Below B w.drew w'):Below B w w':=⟨h.os,h.tape,h.output,h.size,h.block⟩
theorem zJr (t:Z9) (i:Nat) (l:List Z9) (A B:Option Addr) (cap cb:Nat) (w:World) (S:Nat->Prop) (hS:∀q,S q->q<w.heap.size) (hi:i<t.kids.length) (ag:t.kids.length<=1000000) (hll:l.length<=1000000) (hv:Z8 Z6 w S t.kids (.slice A t.kids.length cap)) (hl:Z8 Z6 w S l (.slice B l.length cb)) :
  Calls Tryz.prog 105 #[.agg #[.int .i64 t.kind,.string t.text,.int .i64 t.cols,.slice A t.kids.length cap],.int .i64 i,.slice B l.length cb] w (XC S w (Zj t i l)):=by
 have CR:Hid (∀W v,Below w.heap.size w W->Z8 Z6 W (fun q=>S q\/w.heap.size+1+1<=q/\q<W.heap.size) l v->∀B' c',v=.slice B' l.length c'->Calls Tryz.prog 80 #[.agg #[.int .i64 t.kind,.string t.text,.int .i64 t.cols,.slice A t.kids.length cap],.int .i64 i,.agg #[.int .i64 1,.string ⟨#[]⟩,.int .i64 0,.slice B' l.length c']] W (XC (fun q=>S q\/w.heap.size+1+1<=q/\q<W.heap.size) W (Zj t i l))):=by
  intro W v hW hr B' c' aW;subst aW;exact zEd t (Z7 l) i A B' cap c' W _ (fun q hq=>by
   have hz:=hW.size;rcases hq with hq|hq
   ·have:=hS q hq;omega
   exact hq.2) hi ag ⟨by simp[Z7,Z9.kind,Z4],by simp[Z7,Z9.cols,Z4],Qj _⟩ (hv.keep (fun q hq=>hW.cell (hS _ hq)) (fun q hq=>.inl hq)) hr
 have HFS:Hid (Zj t i l=Zj t i l):=rfl;generalize Zj t i l=R at *;obtain⟨tk,tx,tc,ts⟩:=t;obtain⟨rk,rx,rc,rs⟩:=R;simp only[Z9.kind,Z9.text,Z9.cols,Z9.kids] at *;generalize aj:(w.alloc (Obj.cells #[.int .i64 tk,.string tx,.int .i64 tc,.slice A ts.length cap] 24)).alloc (Obj.cells #[.int .i64 0,.string ⟨#[]⟩,.int .i64 0,.slice none 0 0] 24)=W0;have aF:W0.heap.size=w.heap.size+1+1:=by rw[<-aj];simp
 have au:Below w.heap.size w W0:=by rw[<-aj];exact Zy (ZW _ _) _
 have aI:ZI W0 w.heap.size tk tx tc (.slice A ts.length cap):=by
  rw[<-aj];exact(ZI.new w _ _ _ _ _).below (ZW _ _) (by simp)
 have az:ZI W0 (w.heap.size+1) 0 ⟨#[]⟩ 0 (.slice none 0 0)/\Yy W0 (w.heap.size+1):=by
  rw[<-aj];have h:=ZI.new (w.alloc (Obj.cells #[.int .i64 tk,.string tx,.int .i64 tc,.slice A ts.length cap] 24)) 0 ⟨#[]⟩ 0 (.slice none 0 0) 24;have h2:=Yy.new (w.alloc (Obj.cells #[.int .i64 tk,.string tx,.int .i64 tc,.slice A ts.length cap] 24)) #[.int .i64 0,.string ⟨#[]⟩,.int .i64 0,.slice none 0 0] 24;exact⟨by simpa using h,by simpa using h2⟩
 have KC:Hid (∀W,Below W0.heap.size W0 W->ZI W w.heap.size tk tx tc (.slice A ts.length cap)/\ZI W (w.heap.size+1) 0 ⟨#[]⟩ 0 (.slice none 0 0)/\Yy W (w.heap.size+1)/\Below w.heap.size w W):=fun W h=>⟨aI.below h (by omega),az.1.below h (by omega),az.2.below h (by omega),au.trans (h.mono au.size)⟩
 have aH:Z8 Z6 W0 S l (.slice B l.length cb):=hl.keep (fun q hq=>au.cell (hS _ hq)) (fun _ h=>h);have aC:Hid (∀W',W'=W0.alloc (.cells #[] 24)->Zq W'.drew W0.heap.size S [] (.slice (some ⟨W0.heap.size,0,none⟩) 0 0)/\Z8 Z6 W'.drew S l (.slice B l.length cb)/\Below W0.heap.size W0 W'.drew):=by
  rintro W' rfl;have hb:Below W0.heap.size W0 (W0.alloc (.cells #[] 24)).drew:=(ZW _ _).drew;exact⟨Zq.empty W0 S,aH.keep (fun q hq=>hb.cell (by have:=hS _ hq;omega)) (fun _ h=>h),hb⟩
 have aP:=hid aF;have aU:Hid (w.heap.size<=W0.heap.size):=by show _<=_;omega
 have aB:=hid hS;obtain⟨m0,m1,m2,m3⟩:=aI;clear hS hv hl aH hi ag au az aF;go_enter Tryz.func105,Tryz.ntmps105
 go_wp2_with fail
 clear aj
 go_region_held3 (fun w'=>w'.cell? ⟨w.heap.size,0,none⟩=some (.int .i64 tk)/\w'.cell? ⟨w.heap.size,1,none⟩=some (.string tx)/\w'.cell? ⟨w.heap.size,2,none⟩=some (.int .i64 tc)/\w'.cell? ⟨w.heap.size,3,none⟩=some (.slice A ts.length cap)) (go_keep) (first
  |(refine zPh (by rfl) (.tmp 9) (.tmp 10) (by rfl) W0.heap.size S (fun q hq=>Qk (aB.out q hq) aU.out) _ [] l (by rfl) (aC.out _ rfl).1 _ _ _ (by rfl) (aC.out _ rfl).2.1 (by simp;omega) (by simp) ?_;intro v1 w1 aa aJ;rw[List.nil_append] at aa;have ax:=hid ((aC.out _ rfl).2.2.trans aJ);have aT:Hid (Z8 Z6 w1 (fun q=>S q\/w.heap.size+1+1<=q/\q<w1.heap.size) l v1):=by { have h:=aa.rowsN;rw[aP.out] at h;exact h };have aR:Hid (∀q,S q->q<w1.heap.size):=fun q hq=>Qk (aB.out q hq) (Qf aU.out ax.out.size);obtain⟨A1,n1,rfl⟩:=aa.form;obtain⟨⟨p0,p1,p2,p3⟩,_⟩:=KC.out w1 ax.out;clear aa aJ)
  |(go_at_call 52;refine(zHp _ _ _ _).mono ?_;rintro e w2 ⟨rfl,af⟩;have ak:=hid (Zo ax.out (Xo af));have aS:Hid (Z8 Z6 w2 (fun q=>S q\/w.heap.size+1+1<=q/\q<w2.heap.size) l (.slice A1 l.length n1)):=newer aT.out aR.out (Xo af);obtain⟨⟨p0,p1,p2,p3⟩,_,_,ae⟩:=KC.out w2 ak.out;have aV:=hid ae;clear af ae)
  |(go_at_call 52;refine(zHp _ _ _ _).mono ?_;rintro e w2 ⟨rfl,af⟩;have ak:=hid (Zo ax.out af);have aS:Hid (Z8 Z6 w2 (fun q=>S q\/w.heap.size+1+1<=q/\q<w2.heap.size) l (.slice A1 l.length n1)):=newer aT.out aR.out af;obtain⟨⟨p0,p1,p2,p3⟩,_,_,ae⟩:=KC.out w2 ak.out;have aV:=hid ae;clear af ae)
  |(go_at_call 80;refine(CR.out _ _ aV.out aS.out _ _ rfl).mono ?_;intro e w3 h3;obtain⟨v3,rfl,ay,aA⟩:∃v,e=.returned (.agg #[.int .i64 rk,.string rx,.int .i64 rc,v])/\Z8 Z6 w3 (fun q=>(S q\/w.heap.size+1+1<=q/\q<w2.heap.size)\/w2.heap.size<=q/\q<w3.heap.size) rs v/\Below w2.heap.size w2 w3:=h3;obtain⟨A3,n3,rfl⟩:=ay.form;have aZ:=hid ay;have bn:=hid (Zo ak.out aA);have aQ:=hid aA;obtain⟨⟨p0,p1,p2,p3⟩,aG,⟨f0,f1,f2,f3⟩,ah⟩:=KC.out w3 bn.out;have av:=hid aG;obtain⟨r0,r1,r2,r3⟩:=aG;have bg:=hid ah;clear aA ah ay))
 all_goals
  have aD:w.heap.size+1<w2.heap.size:=by have:=ak.out.size;have:=aP.out;omega
  have aO:=hid aD;clear aD
  go_wp2_with fail
  generalize hZ:((((w3.setCell _ (.int .i64 rk)).setCell _ (.string rx)).setCell _ (.int .i64 rc)).setCell _ (.slice A3 rs.length n3))=Z;obtain⟨⟨e0,e1,e2,e3⟩,aK,aM,aL,_,_⟩:=Xy (o:=0) av.out.1 av.out.2.1 av.out.2.2.1 av.out.2.2.2 _ _ _ _ hZ.symm;simp only[Nat.zero_add] at e1 e2 e3;have aY:=hid (aM w.heap.size w (by omega) bg.out);have aX:=hid aL;have aN:=hid aK;clear hZ aK aM aL;refine bodyPost_ret (v:=.agg #[.int .i64 rk,.string rx,.int .i64 rc,.slice A3 rs.length n3]) (by simp[results,Tryz.results105,go_sem,e0,e1,e2,e3]) rfl ?_;have aQ:=aQ.out.size;have aO:=aO.out;have aN:=aN.out;refine⟨_,rfl,aZ.out.keep (fun q hq=>aX.out q ?_) (fun q hq=>?_),aY.out⟩
  ·rcases hq with (hq|hq)|hq
   ·have:=aB.out _ hq;omega
   ·omega
   omega
  rcases hq with (hq|hq)|hq
  ·exact .inl hq
  ·exact .inr ⟨by omega,by omega⟩
  exact .inr ⟨by omega,by omega⟩
def Zn (l:List Z9) (a b:Nat) (by_:List Z9):List Z9:=l.take a++by_++l.drop b
def XL (S:Nat->Prop) (w:World) (L:List Z9) (e:Ending) (w':World):Prop :=
 ∃v,e=.returned v/\Z8 Z6 w' (fun q=>S q\/w.heap.size<=q/\q<w'.heap.size) L v/\Below w.heap.size w w'
theorem zEk (l bs:List Z9) (x y:Int) (a b:Nat) (A B:Option Addr) (cap cb:Nat) (w:World) (S:Nat->Prop) (hS:∀q,S q->q<w.heap.size) (hx:x=a) (hy:y=b) (ha:a<=l.length) (hb:b<=l.length) (ay:l.length<=1000000) (az:bs.length<=1000000) (hv:Z8 Z6 w S l (.slice A l.length cap)) (hl:Z8 Z6 w S bs (.slice B bs.length cb)) :
  Calls Tryz.prog 104 #[.slice A l.length cap,.int .i64 x,.int .i64 y,.slice B bs.length cb] w (XL S w (Zn l a b bs)):=by
 have aG:l.length<=cap:=by obtain⟨_,_,_,hq,h1,_⟩:=hv;cases hq;exact h1
 obtain⟨A1,aF,ae⟩:=RV Z6 Tryz.underlying22 Vw A l.length cap x a hx ha aG;obtain⟨A2,aD,aa⟩:=TM Z6 Tryz.underlying22 Vw A l.length cap y b hy hb;have ag:=hid hS;have aM:=hid (ae _ _ _ hv);have aL:=hid (aa _ _ _ hv);have aN:=hid hl;have aH:=hid (Zq.empty w S);have HL:Hid (Zn l a b bs=l.take a++bs++l.drop b):=rfl;have hk:∀{ts:List Z9} {v:Value} {W:World},Z8 Z6 w S ts v->Below w.heap.size w W->Z8 Z6 W S ts v:=fun h hW=>h.keep (fun q hq=>hW.cell (hS _ hq)) (fun _ h=>h)
 have aj:Hid (∀(ts:List Z9) (v:Value) (W:World),Z8 Z6 w S ts v->Below w.heap.size w W->Z8 Z6 W S ts v):=fun _ _ _ h hW=>hk h hW
 have ah:Hid (a<=l.length/\b<=l.length/\l.length<=1000000/\bs.length<=1000000):=⟨ha,hb,ay,az⟩;generalize Zn l a b bs=L at *;clear hv hl hS ae aa hx hy ha hb ay az hk;go_enter Tryz.func104,Tryz.ntmps104
 go_wp2_with first
  |(
   refine Wd rfl (.tmp 10) (.tmp 13) rfl w.heap.size S (fun q hq=>ag.out q hq) _ [] (l.take a) rfl aH.out _ _ _ rfl (aj.out _ _ _ aM.out (ZW _ _)) (by have:=ah.out;simp;omega) (by simp) ?_;intro v1 w1 af aC;rw[List.nil_append] at af;have aK:=hid af;have au:=hid ((ZW w (.cells #[] 24)).trans aC);clear af aC)
  |(
   refine Wd rfl (.tmp 15) (.tmp 16) rfl w.heap.size S (fun q hq=>ag.out q hq) _ (l.take a) bs rfl aK.out _ _ _ rfl (aj.out _ _ _ aN.out au.out) (by have:=ah.out;simp;omega) au.out.size ?_;intro v2 w2 ax aB;have aJ:=hid ax;have ak:=hid (au.out.trans aB);clear ax aB)
  |(
   refine Wd rfl (.tmp 18) (.tmp 21) rfl w.heap.size S (fun q hq=>ag.out q hq) _ (l.take a++bs) (l.drop b) rfl aJ.out _ _ _ rfl (aj.out _ _ _ aL.out ak.out) (by have:=ah.out;simp;omega) ak.out.size ?_;intro v3 w3 av aA;have aI:=hid av;have aO:=hid (ak.out.trans aA);clear av aA)
 go_ret;exact⟨_,rfl,by rw[HL.out];exact aI.out.rowsN,aO.out⟩
theorem QM {s t:ByteArray}:s.toList=t.toList↔s=t:=by
 constructor
 ·intro h;rw[Lib.toList_data,Lib.toList_data] at h;exact ByteArray.ext (Array.toList_inj.1 h)
 intro h;rw[h]
mutual
def Yv:Z9->Z9->Bool
 |.mk k s c ts,.mk k' s' c' us=>k==k'&&(s.toList==s'.toList&&(c==c'&&(ts.length==us.length&&Zl ts us)))
def Zl:List Z9->List Z9->Bool
 |t::ts,u::us=>Yv t u&&Zl ts us
 |_,_=>true
end
theorem zL0 {ts us:List Z9} {i:Nat} (h:i<ts.length) (h':i<us.length):Zl (ts.drop i) (us.drop i)=(Yv ts[i] us[i]&&Zl (ts.drop (i+1)) (us.drop (i+1))):=by
 rw[List.drop_eq_getElem_cons h,List.drop_eq_getElem_cons h',Zl]
mutual
theorem SN:(t u:Z9)->(Yv t u=true↔t=u)
 |
  .mk k s c ts,.mk k' s' c' us=>by
  unfold Yv
  have h:=zKm ts us
  simp only[Bool.and_eq_true,beq_iff_eq,Z9.mk.injEq,h,QM]
theorem zKm:(ts us:List Z9)->((ts.length=us.length/\Zl ts us=true)↔ts=us)
 |[],[]=>by simp[Zl]
 |[],u::us=>by simp
 |t::ts,[]=>by simp
 |
  t::ts,u::us=>by
  have h1:=SN t u
  have h2:=zKm ts us
  simp only[Zl,List.length_cons,Bool.and_eq_true,List.cons.injEq,Nat.add_right_cancel_iff,<-h2,h1]
  constructor<;>(rintro ⟨a,b,c⟩;exact⟨b,a,c⟩)
end
theorem zPm (xs ys:List Z9) (w:World) (A A':Option Addr) (cap cap':Nat) (hv:Z8 Z6 w (Lt w.heap.size) xs (.slice A xs.length cap)) (hu:Z8 Z6 w (Lt w.heap.size) ys (.slice A' ys.length cap'))
  (hE:∀t∈xs,∀(u:Z9) (W:World) (v1 v2:Value),Z8 Z6 W (Lt W.heap.size) t.kids v1->Z8 Z6 W (Lt W.heap.size) u.kids v2 ->
   Calls Tryz.prog 14 #[.agg #[.int .i64 t.kind,.string t.text,.int .i64 t.cols,v1],.agg #[.int .i64 u.kind,.string u.text,.int .i64 u.cols,v2]] W fun e w'=>e=.returned (.bool (Yv t u))/\Below W.heap.size W w') :
  Calls Tryz.prog 33 #[.slice A xs.length cap,.slice A' ys.length cap'] w fun e w'=>e=.returned (.bool (xs.length==ys.length&&Zl xs ys))/\Below w.heap.size w w':=by
 obtain⟨_,_,rs,hq,aL,aA,aj,av⟩:=hv;cases hq;obtain⟨_,_,aC,hq,aG,ak,aa,ae⟩:=hu;cases hq;unfold maxLen at aA ak;have H:Hid (Zd w (Lt w.heap.size) A rs/\ZG Z6 w (Lt w.heap.size) xs rs):=⟨aj,av⟩;have H':Hid (Zd w (Lt w.heap.size) A' aC/\ZG Z6 w (Lt w.heap.size) ys aC):=⟨aa,ae⟩;clear aj av aa ae;have l0:xs.length<=9223372036854775807:=by omega
 have l1:ys.length<=9223372036854775807:=by omega
 by_cases hl:xs.length=ys.length
 ·have b0:((xs.length:Int) != (ys.length:Int))=false:=by simp[hl]
  have b1:((xs.length:Int)==(ys.length:Int))=true:=by simp[hl]
  have b2:decide ((xs.length:Int)=(ys.length:Int))=true:=by simp[hl]
  have HF:Hid ((xs.length==ys.length&&Zl xs ys)=Zl xs ys):=by show _=_;simp[hl]
  rw[HF.out];clear HF;have HL:=hid hl;have aJ:=hid hE;clear hE hl;go_enter Tryz.func33,Tryz.ntmps33
  go_wp2_with fail
  go_loopw [5] (fun i wr=>Below w.heap.size w wr/\∃(k:Nat),k<=xs.length/\i=.int .i64 k/\Zl (xs.drop k) (ys.drop k)=Zl xs ys) (fun i _=>xs.length-(intOf i).toNat)
  case atStart=>exact⟨Qg _ _,0,Qj _,rfl,rfl⟩
  obtain⟨hb,k,hk,rfl,af⟩:=hrel;have HR:=hid af;have HB:=hid hb;clear af;by_cases aB:k<xs.length
  ·have au:k<ys.length:=by have:=HL.out;omega
   obtain⟨g,o,B,bc,bs,rfl,hg,c0,c1,c2,c3,_,_,_,aI,aH,aj,av⟩:=YW (H.out.1.keep (Zr.of_below hb (Qi _)) (Lt.mono hb.size)) (H.out.2.keep (Zr.of_below hb (Qi _)) (Lt.mono hb.size)) aB;obtain⟨g',o',B',ah,aM,rfl,aK,d0,d1,d2,d3,_,_,_,aF,aD,aa,ae⟩:=YW (H'.out.1.keep (Zr.of_below hb (Qi _)) (Lt.mono hb.size)) (H'.out.2.keep (Zr.of_below hb (Qi _)) (Lt.mono hb.size)) au;have ay:g<wr.heap.size:=hg;have ax:g'<wr.heap.size:=aK;have az:xs[k]∈xs:=List.getElem_mem aB;have HT:=hid (zL0 aB au);have HV:Hid (Z8 Z6 wr (Lt wr.heap.size) xs[k].kids (.slice B xs[k].kids.length bc)):=⟨B,bc,bs,rfl,aI,aH,aj,av⟩;have aN:Hid (Z8 Z6 wr (Lt wr.heap.size) ys[k].kids (.slice B' ys[k].kids.length ah)):=⟨B',ah,aM,rfl,aF,aD,aa,ae⟩;have HC:Hid (Calls Tryz.prog 14 #[.agg #[.int .i64 xs[k].kind,.string xs[k].text,.int .i64 xs[k].cols,.slice B xs[k].kids.length bc],.agg #[.int .i64 ys[k].kind,.string ys[k].text,.int .i64 ys[k].cols,.slice B' ys[k].kids.length ah]] wr.drew fun e w'=>e=.returned (.bool (Yv xs[k] ys[k]))/\Below wr.drew.heap.size wr.drew w') :=
    aJ.out _ az ys[k] _ _ _ (zEl HV.out) (zEl aN.out)
   have KW:Hid (∀W,Below wr.heap.size wr W->Below w.heap.size w W /\
     (W.cell? ⟨g,o+k*4,none⟩=some (.int .i64 xs[k].kind)/\W.cell? ⟨g,o+k*4+1,none⟩=some (.string xs[k].text)/\W.cell? ⟨g,o+k*4+2,none⟩=some (.int .i64 xs[k].cols)/\W.cell? ⟨g,o+k*4+3,none⟩=some (.slice B xs[k].kids.length bc)) /\
     (W.cell? ⟨g',o'+k*4,none⟩=some (.int .i64 ys[k].kind)/\W.cell? ⟨g',o'+k*4+1,none⟩=some (.string ys[k].text)/\W.cell? ⟨g',o'+k*4+2,none⟩=some (.int .i64 ys[k].cols)/\W.cell? ⟨g',o'+k*4+3,none⟩=some (.slice B' ys[k].kids.length ah))):=by
    intro W hW;have h:=(bcell hW).1;exact⟨HB.out.trans (hW.mono HB.out.size),⟨(h _ _ ay).trans c0,(h _ _ ay).trans c1,(h _ _ ay).trans c2,(h _ _ ay).trans c3⟩,(h _ _ ax).trans d0,(h _ _ ax).trans d1,(h _ _ ax).trans d2,(h _ _ ax).trans d3⟩
   have i0:(k:Int)<(xs.length:Int):=by omega
   clear aj av aa ae hb aI aH aF aD aJ b0 b1 b2;generalize ag:Yv xs[k] ys[k]=b3 at *;clear ag;cases b3
   ·have HF:Hid (Zl xs ys=false):=by show _=_;rw[<-HR.out,HT.out];rfl
    go_wp2_with fail
    go_region_held3 (fun w'=>w'.cell? ⟨g,o+k*4,none⟩=some (.int .i64 xs[k].kind)/\w'.cell? ⟨g,o+k*4+1,none⟩=some (.string xs[k].text)/\w'.cell? ⟨g,o+k*4+2,none⟩=some (.int .i64 xs[k].cols)/\w'.cell? ⟨g,o+k*4+3,none⟩=some (.slice B xs[k].kids.length bc)/\w'.cell? ⟨g',o'+k*4,none⟩=some (.int .i64 ys[k].kind)/\w'.cell? ⟨g',o'+k*4+1,none⟩=some (.string ys[k].text)/\w'.cell? ⟨g',o'+k*4+2,none⟩=some (.int .i64 ys[k].cols)/\w'.cell? ⟨g',o'+k*4+3,none⟩=some (.slice B' ys[k].kids.length ah)) (go_keep) (first
     |(go_at_call 14;refine HC.out.mono ?_;rintro e w3 ⟨rfl,ag⟩;obtain⟨p0,⟨p1,p2,p3,p4⟩,p5,p6,p7,p8⟩:=KW.out w3 (RU ag);have HP:=hid p0;clear ag p0))
    go_wp2_with fail
    go_ret;exact⟨by rw[HF.out];rfl,HP.out⟩
   have HF:Hid (Zl (xs.drop (k+1)) (ys.drop (k+1))=Zl xs ys):=by show _=_;rw[<-HR.out,HT.out];rfl
   go_wp2_with fail
   go_region_held3 (fun w'=>w'.cell? ⟨g,o+k*4,none⟩=some (.int .i64 xs[k].kind)/\w'.cell? ⟨g,o+k*4+1,none⟩=some (.string xs[k].text)/\w'.cell? ⟨g,o+k*4+2,none⟩=some (.int .i64 xs[k].cols)/\w'.cell? ⟨g,o+k*4+3,none⟩=some (.slice B xs[k].kids.length bc)/\w'.cell? ⟨g',o'+k*4,none⟩=some (.int .i64 ys[k].kind)/\w'.cell? ⟨g',o'+k*4+1,none⟩=some (.string ys[k].text)/\w'.cell? ⟨g',o'+k*4+2,none⟩=some (.int .i64 ys[k].cols)/\w'.cell? ⟨g',o'+k*4+3,none⟩=some (.slice B' ys[k].kids.length ah)) (go_keep) (first
    |(go_at_call 14;refine HC.out.mono ?_;rintro e w3 ⟨rfl,ag⟩;obtain⟨p0,⟨p1,p2,p3,p4⟩,p5,p6,p7,p8⟩:=KW.out w3 (RU ag);have HP:=hid p0;clear ag p0))
   go_wp2_with fail
   go_roundw
   case rel=>exact⟨HP.out,k+1,by omega,by go_num,HF.out⟩
   case measure=>simp[intOf];omega
  have HF:Hid (Zl xs ys=true):=by show _=_;rw[<-HR.out,List.drop_of_length_le (by omega),Zl];simp
  clear hb
  go_wp2_with fail
  go_ret;exact⟨by rw[HF.out];rfl,HB.out⟩
 have b0:((xs.length:Int) != (ys.length:Int))=true:=by simp;omega
 have b1:((xs.length:Int)==(ys.length:Int))=false:=by simp;omega
 have b2:decide ((xs.length:Int)=(ys.length:Int))=false:=by simp;omega
 have HF:Hid ((xs.length==ys.length&&Zl xs ys)=false):=by show _=_;simp[hl]
 clear hE;go_enter Tryz.func33,Tryz.ntmps33
 go_wp2_with fail
 go_ret;exact⟨by rw[HF.out];rfl,Qg _ _⟩
theorem zLz (t:Z9):∀(u:Z9) (w:World) (a b:Value) (_:Z8 Z6 w (Lt w.heap.size) t.kids a) (_:Z8 Z6 w (Lt w.heap.size) u.kids b),
  Calls Tryz.prog 14 #[.agg #[.int .i64 t.kind,.string t.text,.int .i64 t.cols,a],.agg #[.int .i64 u.kind,.string u.text,.int .i64 u.cols,b]] w fun e w'=>e=.returned (.bool (Yv t u))/\Below w.heap.size w w':=by
 induction t using Z9.ind with
 |h t ih =>
 obtain⟨tk,tx,tc,ts⟩:=t;intro u w a b ha hb;obtain⟨uk,ux,uc,us⟩:=u;simp only[Z9.kind,Z9.text,Z9.cols,Z9.kids] at *;have HA:=hid ha;have HB:=hid hb;obtain⟨A,cap,_,rfl,_,_,_,_⟩:=ha;obtain⟨A',cap',_,rfl,_,_,_,_⟩:=hb;rename_i h1 h2 h3 h4 h5 h6 h7 h8;clear h1 h2 h3 h4 h5 h6 h7 h8;have HC:Hid (∀W,Below w.heap.size w W->Calls Tryz.prog 33 #[.slice A ts.length cap,.slice A' us.length cap'] W fun e w'=>e=.returned (.bool (ts.length==us.length&&Zl ts us))/\Below W.heap.size W w') :=
  fun W hW=>zPm ts us W A A' cap cap' (HA.out.below hW hW.size) (HB.out.below hW hW.size) ih
 have HE:Hid (Yv (.mk tk tx tc ts) (.mk uk ux uc us)=(tk==uk&&(tx.toList==ux.toList&&(tc==uc&&(ts.length==us.length&&Zl ts us))))):=by show _=_;rw[Yv]
 rw[HE.out];clear HE ih HA HB;have HW:Hid (Below w.heap.size w ((w.alloc (Obj.cells #[Value.int IntKind.i64 tk,Value.string tx,Value.int IntKind.i64 tc,.slice A ts.length cap] 24)).alloc
   (Obj.cells #[Value.int IntKind.i64 uk,Value.string ux,Value.int IntKind.i64 uc,.slice A' us.length cap'] 24))):=((Qg _ _).alloc (Qi _) _).alloc (by simp) _
 generalize hq:(ts.length==us.length&&Zl ts us)=b at *;clear hq;generalize af:(tk==uk)=b1 at *;generalize hq2:(tx.toList==ux.toList)=b2 at *;generalize ae:(tc==uc)=b3 at *;have hd1:decide (tk=uk)=b1:=by rw[<-af];simp[Bool.beq_eq_decide_eq]
 have hd3:decide (tc=uc)=b3:=by rw[<-ae];simp[Bool.beq_eq_decide_eq]
 cases b1
 ·go_enter Tryz.func14,Tryz.ntmps14
  go_wp2_with fail
  go_ret;exact⟨by rfl,HW.out⟩
 cases b2
 ·go_enter Tryz.func14,Tryz.ntmps14
  go_wp2_with fail
  go_ret;exact⟨by rfl,HW.out⟩
 cases b3
 ·go_enter Tryz.func14,Tryz.ntmps14
  go_wp2_with fail
  go_ret;exact⟨by rfl,HW.out⟩
 go_enter Tryz.func14,Tryz.ntmps14
 go_wp2_with fail
 refine(HC.out _ HW.out).mono ?_;rintro e w3 ⟨rfl,aa⟩;have HP:=hid (HW.out.trans (aa.mono HW.out.size));clear aa HW
 go_wp2_with fail
 go_ret;exact⟨by rfl,HP.out⟩
theorem zNr (xs ys:List Z9) (w:World) (a b:Value) (ha:Z8 Z6 w (Lt w.heap.size) xs a) (hb:Z8 Z6 w (Lt w.heap.size) ys b) :
  Calls Tryz.prog 33 #[a,b] w fun e w'=>e=.returned (.bool (xs.length==ys.length&&Zl xs ys))/\Below w.heap.size w w':=by
 have ae:=ha;have aa:=hb;obtain⟨A,cap,_,rfl,_,_,_,_⟩:=ha;obtain⟨A',cap',_,rfl,_,_,_,_⟩:=hb;exact zPm xs ys w A A' cap cap' ae aa (fun t _ u W v1 v2 h1 h2=>zLz t u W v1 v2 h1 h2)
end Go.Proofs.YthpngeboknmllaaGreat
namespace Go.Proofs.YthpngeboknmllaaGreat
theorem Z9.ind' {P:Z9->Prop} (h:∀t:Z9,(∀k∈t.kids,∀u∈k.kids,P u)->P t):∀t,P t:=by
 intro t;have:∀(n:Nat) (t:Z9),ZR t<=n->P t:=by
  intro n;induction n with
  |zero =>
     intro t ht;have:0<ZR t:=by cases t;rw[ZR];omega
     omega
  |
   succ n ih =>
   intro t ht;have aa:∀(ts:List Z9),∀k∈ts,ZR k<=ZQ ts:=by
    intro ts;induction ts with
    |nil=>simp
    |cons u us ih =>
      intro k hk;rw[ZQ];rcases List.mem_cons.1 hk with rfl|hk
      ·omega
      have:=ih k hk;omega
   refine h t fun k hk u hu=>ih u ?_
   cases t with
   |
    mk a b c ts=>cases k with
    |mk a' b' c' us =>
    rw[ZR] at ht;have h1:=aa ts _ hk;rw[ZR] at h1;have h2:=aa us u hu;omega
 exact this _ t (Qi _)
mutual
def ZJ (path:List Int):Z9->List (List Int)
 |.mk _ _ _ ts=>YG path 0 ts
def YG (path:List Int) (i:Nat):List Z9->List (List Int)
 |[]=>[path++[(i:Int)]]
 |.mk _ _ _ us::ts=>(path++[(i:Int)])::(X8 path i 0 us++YG path (i+1) ts)
def X8 (path:List Int) (i k:Nat):List Z9->List (List Int)
 |[]=>[]
 |u::us=>ZJ (path++[(i:Int),(k:Int)]) u++X8 path i (k+1) us
end
theorem zKs (path:List Int) (t:Z9):ZJ path t=YG path 0 t.kids:=by cases t;rw[ZJ];rfl
theorem zFr (path:List Int) (i:Nat) (t:Z9) (ts:List Z9):YG path i (t::ts)=(path++[(i:Int)])::(X8 path i 0 t.kids++YG path (i+1) ts):=by cases t;rw[YG];rfl
def ZO:Z9->List Int->Bool
 |
  t,i::k::p =>
  if hi:0<=i/\i.toNat<t.kids.length then
   if hk:0<=k/\k.toNat<(t.kids[i.toNat]'hi.2).kids.length then ZO ((t.kids[i.toNat]'hi.2).kids[k.toNat]'hk.2) p else false
  else false
 |t,[i]=>decide (0<=i/\i<=t.kids.length)
 |_,[]=>false
theorem zF7 (path:List Int) (i:Nat) (q:List Int):∀(us:List Z9) (k:Nat),q∈X8 path i k us↔∃(j:Nat) (h:j<us.length),q∈ZJ (path++[(i:Int),((k+j:Nat):Int)]) us[j]:=by
 intro us;induction us with
 |nil=>intro k;simp[X8]
 |
  cons u us ih =>
  intro k;rw[X8,List.mem_append,ih];constructor
  ·rintro (h|⟨j,h,hq⟩)
   ·exact⟨0,by simp,by simpa using h⟩
   refine⟨j+1,by simpa using h,?_⟩;rw[show k+(j+1)=k+1+j by omega];simpa using hq
  rintro ⟨j,h,hq⟩;cases j with
  |zero=>left;simpa using hq
  |succ j=>right;refine⟨j,by simpa using h,?_⟩;rw[show k+1+j=k+(j+1) by omega];simpa using hq
theorem zLj (path:List Int) (q:List Int):∀(ts:List Z9) (i:Nat),q∈YG path i ts↔(∃j,j<=ts.length/\q=path++[((i+j:Nat):Int)])\/∃(j:Nat) (h:j<ts.length),q∈X8 path (i+j) 0 ts[j].kids:=by
 intro ts;induction ts with
 |
  nil =>
  intro i;simp only[YG,List.mem_singleton,List.length_nil];constructor
  ·intro h;exact .inl ⟨0,Qi _,h⟩
  rintro (⟨j,hj,h⟩|⟨j,hj,_⟩)
  ·obtain rfl:j=0:=by omega
   exact h
  omega
 |
  cons t ts ih =>
  intro i;rw[zFr,List.mem_cons,List.mem_append,ih];constructor
  ·rintro (h|h|⟨j,hj,h⟩|⟨j,hj,h⟩)
   ·exact .inl ⟨0,by simp,h⟩
   ·exact .inr ⟨0,by simp,by simpa using h⟩
   ·exact .inl ⟨j+1,by simpa using hj,by rw[h,show i+(j+1)=i+1+j by omega]⟩
   refine .inr ⟨j+1,by simpa using hj,?_⟩;rw[show i+(j+1)=i+1+j by omega];simpa using h
  rintro (⟨j,hj,h⟩|⟨j,hj,h⟩)
  ·cases j with
   |zero=>exact .inl h
   |succ j=>exact .inr (.inr (.inl ⟨j,by simpa using hj,by rw[h,show i+(j+1)=i+1+j by omega]⟩))
  cases j with
  |zero=>exact .inr (.inl (by simpa using h))
  |
   succ j =>
   refine .inr (.inr (.inr ⟨j,by simpa using hj,?_⟩));rw[show i+1+j=i+(j+1) by omega];simpa using h
theorem zHi (t:Z9):∀(path q:List Int),q∈ZJ path t↔∃r,q=path++r/\ZO t r=true:=by
 induction t using Z9.ind' with
 |h t ih =>
 intro path q;rw[zKs,zLj];constructor
 ·rintro (⟨j,hj,rfl⟩|⟨j,hj,h⟩)
  ·exact⟨_,rfl,by simp only[ZO,decide_eq_true_eq];omega⟩
  rw[zF7] at h;obtain⟨k,hk,h⟩:=h;rw[ih t.kids[j] (List.getElem_mem hj) _ (List.getElem_mem hk)] at h;obtain⟨r,rfl,hr⟩:=h;refine⟨((0+j:Nat):Int)::((0+k:Nat):Int)::r,by simp,?_⟩;simp only[Nat.zero_add,ZO,Int.natCast_nonneg,Int.toNat_natCast,true_and,hj,hk,dif_pos];exact hr
 rintro ⟨r,rfl,hr⟩
 match r,hr with
 |
  [i],hr =>
  simp only[ZO,decide_eq_true_eq] at hr;exact .inl ⟨i.toNat,by omega,by rw[show ((0+i.toNat:Nat):Int)=i by omega]⟩
 |
  i::k::r,hr =>
  simp only[ZO] at hr;split at hr
  ·rename_i hi;split at hr
   ·rename_i hk;refine .inr ⟨i.toNat,hi.2,?_⟩;rw[zF7];refine⟨k.toNat,hk.2,?_⟩;rw[ih _ (List.getElem_mem hi.2) _ (List.getElem_mem hk.2)];exact⟨r,by rw[show ((0+i.toNat:Nat):Int)=i by omega,show ((0+k.toNat:Nat):Int)=k by omega];simp,hr⟩
   cases hr
  cases hr
 |[],hr=>simp[ZO] at hr
theorem zKj {t:Z9} {q:List Int}:q∈ZJ [] t↔ZO t q=true:=by rw[zHi];simp
theorem Q6:∀(p a b:List Int),ZX (p++a) (p++b)=ZX a b
 |[],a,b=>rfl
 |x::p,a,b=>by rw[List.cons_append,List.cons_append,ZX,if_neg (by omega),if_neg (by omega)];exact Q6 p a b
theorem zGf:∀a,ZX a a=0
 |[]=>rfl
 |x::a=>by rw[ZX,if_neg (by omega),if_neg (by omega)];exact zGf a
theorem zO3:∀a b,ZX a b=-1\/ZX a b=0\/ZX a b=1
 |[],[]=>by simp[ZX]
 |[],_::_=>by simp[ZX]
 |_::_,[]=>by simp[ZX]
 |
  x::a,y::b=>by
  rw[ZX];split
  ·simp
  split
  ·simp
  exact zO3 a b
theorem zL8:∀a b,ZX b a=- ZX a b
 |[],[]=>by simp[ZX]
 |[],_::_=>by simp[ZX]
 |_::_,[]=>by simp[ZX]
 |
  x::a,y::b=>by
  have ih:=zL8 a b;rw[ZX,ZX];by_cases h1:x<y
  ·rw[if_neg (by omega),if_pos h1,if_pos h1];rfl
  by_cases h2:y<x
  ·rw[if_pos h2,if_neg h1,if_pos h2]
  rw[if_neg h2,if_neg h1,if_neg h1,if_neg h2,ih]
def WN (a b:List Int):Prop:=ZX a b<0
theorem zJl (path:List Int):∀(ts:List Z9) (i:Nat) (q:List Int),q∈YG path i ts->∃(x:Int) (r:List Int),q=path++x::r/\(i:Int)<=x:=by
 intro ts i q h;rw[zLj] at h;rcases h with ⟨j,_,rfl⟩|⟨j,hj,h⟩
 ·exact⟨_,[],rfl,by omega⟩
 rw[zF7] at h;obtain⟨k,hk,h⟩:=h;rw[zHi] at h;obtain⟨r,rfl,_⟩:=h;exact⟨((i+j:Nat):Int),_,by simp only[List.append_assoc,List.cons_append,List.nil_append];rfl,by omega⟩
theorem zGk (path:List Int) (i k:Nat) (us:List Z9) (q:List Int) (h:q∈X8 path i k us):∃(y:Int) (r:List Int),q=path++(i:Int)::y::r/\(k:Int)<=y:=by
 rw[zF7] at h;obtain⟨j,hj,h⟩:=h;rw[zHi] at h;obtain⟨r,rfl,_⟩:=h;exact⟨((k+j:Nat):Int),r,by simp,by omega⟩
mutual
theorem zFv (path:List Int):(t:Z9)->(ZJ path t).Pairwise WN
 |.mk _ _ _ ts=>by rw[ZJ];exact zGb path 0 ts
theorem zGb (path:List Int) (i:Nat):(ts:List Z9)->(YG path i ts).Pairwise WN
 |[]=>by rw[YG];exact List.pairwise_singleton _ _
 |
  .mk _ _ _ us::ts=>by
  rw[YG,List.pairwise_cons]
  refine⟨fun q hq=>?_,?_⟩
  ·rcases List.mem_append.1 hq with hq|hq
   ·obtain⟨y,r,rfl,_⟩:=zGk path i 0 us q hq
    unfold WN;rw[Q6,ZX,if_neg (by omega),if_neg (by omega),ZX];decide
   obtain⟨x,r,rfl,hx⟩:=zJl path ts (i+1) q hq
   unfold WN;rw[Q6,ZX,if_pos (by omega)];decide
  rw[List.pairwise_append]
  refine⟨zFz path i 0 us,zGb path (i+1) ts,fun a ha b hb=>?_⟩
  obtain⟨y,r,rfl,_⟩:=zGk path i 0 us a ha
  obtain⟨x,s,rfl,hx⟩:=zJl path ts (i+1) b hb
  unfold WN;rw[Q6,ZX,if_pos (by omega)];decide
theorem zFz (path:List Int) (i k:Nat):(us:List Z9)->(X8 path i k us).Pairwise WN
 |[]=>by rw[X8];exact List.Pairwise.nil
 |
  u::us=>by
  rw[X8,List.pairwise_append]
  refine⟨zFv _ u,zFz path i (k+1) us,fun a ha b hb=>?_⟩
  rw[zHi] at ha
  obtain⟨r,rfl,_⟩:=ha
  obtain⟨y,s,rfl,hy⟩:=zGk path i (k+1) us b hb
  unfold WN;rw[List.append_assoc,Q6];show ZX ((i:Int)::(k:Int)::r) _<0
  rw[ZX,if_neg (by omega),if_neg (by omega),ZX,if_pos (by omega)];decide
end
mutual
def Uv:Z9->Nat
 |.mk _ _ _ ts=>RZ ts
def RZ:List Z9->Nat
 |[]=>1
 |.mk _ _ _ us::ts=>1+(R8 us+RZ ts)
def R8:List Z9->Nat
 |[]=>0
 |u::us=>Uv u+R8 us
end
mutual
theorem zHl (path:List Int):(t:Z9)->(ZJ path t).length=Uv t
 |.mk _ _ _ ts=>by rw[ZJ,Uv];exact zJm path 0 ts
theorem zJm (path:List Int) (i:Nat):(ts:List Z9)->(YG path i ts).length=RZ ts
 |[]=>by rw[YG,RZ];rfl
 |.mk _ _ _ us::ts=>by rw[YG,RZ,List.length_cons,List.length_append,zI5 path i 0 us,zJm path (i+1) ts];omega
theorem zI5 (path:List Int) (i k:Nat):(us:List Z9)->(X8 path i k us).length=R8 us
 |[]=>by rw[X8,R8];rfl
 |u::us=>by rw[X8,R8,List.length_append,zHl _ u,zI5 path i (k+1) us]
end
mutual
theorem zKp:(t:Z9)->Uv t<=2*ZR t
 |.mk _ _ _ ts=>by rw[Uv,ZR];have:=zLr ts;omega
theorem zLr:(ts:List Z9)->RZ ts<=1+2*ZQ ts
 |[]=>by rw[RZ];omega
 |.mk _ _ _ us::ts=>by rw[RZ,ZQ,ZR];have:=zK1 us;have:=zLr ts;omega
theorem zK1:(us:List Z9)->R8 us<=2*ZQ us
 |[]=>by rw[R8];omega
 |u::us=>by rw[R8,ZQ];have:=zKp u;have:=zK1 us;omega
end
theorem zJt {t:Z9} {j:Nat} (h:j<t.kids.length):Y4 t.kids[j]+1<=Y4 t:=by
 obtain⟨_,_,_,ts⟩:=t;simp only[Z9.kids] at *;rw[Y4];have h1:=zFm (ts.take j) (ts.drop j);rw[List.take_append_drop,List.drop_eq_getElem_cons (show j<ts.length from h),YI] at h1;omega
theorem Qs {t:Z9} {j:Nat} (h:j<t.kids.length):ZR t.kids[j]+1<=ZR t:=by
 obtain⟨_,_,_,ts⟩:=t;simp only[Z9.kids] at *;rw[ZR];have h1:=SC (ts.take j) (ts.drop j);rw[List.take_append_drop,List.drop_eq_getElem_cons (show j<ts.length from h),ZQ] at h1;omega
theorem XW (t:Z9):t.kids.length+1<=ZR t:=by
 obtain⟨_,_,_,ts⟩:=t;simp only[Z9.kids];rw[ZR];have:ts.length<=ZQ ts:=by
  induction ts with
  |nil=>simp
  |cons u us ih=>obtain⟨_,_,_,vs⟩:=u;rw[ZQ,ZR,List.length_cons];omega
 omega
theorem zKd (t:Z9):∀(q:List Int),ZO t q=true->q.length<=Y4 t/\∀x∈q,0<=x/\x<=ZR t:=by
 induction t using Z9.ind' with
 |h t ih =>
 intro q hq;have hkc:=XW t
 match q,hq with
 |
  [i],hq =>
  simp only[ZO,decide_eq_true_eq] at hq;refine⟨?_,by simp;omega⟩;obtain⟨_,_,_,ts⟩:=t;rw[Y4];simp
 |
  i::k::r,hq =>
  simp only[ZO] at hq;split at hq
  ·rename_i hi;split at hq
   ·rename_i hk;obtain⟨h1,h2⟩:=ih _ (List.getElem_mem hi.2) _ (List.getElem_mem hk.2) r hq;have d1:=zJt hi.2;have d2:=zJt hk.2;have c1:=Qs hi.2;have c2:=Qs hk.2;have k2:=XW (t.kids[i.toNat]'hi.2);refine⟨by simp only[List.length_cons];omega,?_⟩;intro x hx;simp only[List.mem_cons] at hx;rcases hx with rfl|rfl|hx
    ·omega
    ·omega
    have:=h2 x hx;omega
   cases hq
  cases hq
 |[],hq=>simp[ZO] at hq
end Go.Proofs.YthpngeboknmllaaGreat
namespace Go.Proofs.YthpngeboknmllaaGreat
open Go.RowKit
structure Xv where
 op:ZL
 k:Nat
 index:Int
 inside:Bool
 slot:Int
 rest:List Int
def Bd (M x:Int):Prop:=-M<=x/\x<=M
structure Xv.Ok (p:Xv):Prop where
 at_:Bd 1099511627776 p.op.at_
 n:Bd 1099511627776 p.op.n
 slot_:Bd 1099511627776 p.op.slot
 k:p.k<=1000000
 index:Bd 1152921504606846976 p.index
 slot:Bd 1152921504606846976 p.slot
 rest:∀x∈p.rest,Bd 1152921504606846976 x
 len:p.rest.length<=100000
 ne:p.inside=true->0<p.rest.length
def YO (p:Xv) (l:List Int):List Int:=if p.inside then l++[p.slot]++p.rest else l
theorem zVm {x:Int} (h:Bd 1152921504606846976 x):Z4 x:=by unfold Bd at h;unfold Z4;omega
theorem rows3 {w w':World} {S:Nat->Prop} {a b c:List Int} {va vb vc:Value} (ha:Z0 w S a va) (hb:Z0 w S b vb) (hc:Z0 w S c vc) (e:TypeId) (he:w'=w.alloc (.cells #[va,vb,vc] e)) (hS:∀k,S k->k<w.heap.size) (g:Nat) (hg:g=w.heap.size) :
  Z8 (XK ZA) w' (Lt w'.heap.size) [a,b,c] (.slice (some ⟨g,0,none⟩) 3 3):=by
 subst he hg;have hk:Zr S w (w.alloc (.cells #[va,vb,vc] e)):=fun p hp=>World.cell?_alloc_lt w _ p (hS _ hp)
 have hm:∀k,S k->Lt (w.alloc (.cells #[va,vb,vc] e)).heap.size k:=fun k h=>by have:=hS k h;unfold Lt;simp;omega
 refine⟨_,_,[va,vb,vc],rfl,Qi _,by simp[maxLen],fun _=>⟨w.heap.size,0,rfl,by unfold Lt;simp,fun j u hu=>?_⟩,?_⟩
 ·rw[Nat.zero_add,World.cell?_alloc_new];simpa using hu
 exact⟨[va],_,rfl,⟨va,rfl,ha.keep hk hm⟩,[vb],_,rfl,⟨vb,rfl,hb.keep hk hm⟩,[vc],_,rfl,⟨vc,rfl,hc.keep hk hm⟩,rfl⟩
theorem Vk {w w':World} {S:Nat->Prop} {a b:List Int} {va vb:Value} (ha:Z0 w S a va) (hb:Z0 w S b vb) (e:TypeId) (he:w'=w.alloc (.cells #[va,vb] e)) (hS:∀k,S k->k<w.heap.size) (g:Nat) (hg:g=w.heap.size) :
  Z8 (XK ZA) w' (Lt w'.heap.size) [a,b] (.slice (some ⟨g,0,none⟩) 2 2):=by
 subst he hg;have hk:Zr S w (w.alloc (.cells #[va,vb] e)):=fun p hp=>World.cell?_alloc_lt w _ p (hS _ hp)
 have hm:∀k,S k->Lt (w.alloc (.cells #[va,vb] e)).heap.size k:=fun k h=>by have:=hS k h;unfold Lt;simp;omega
 refine⟨_,_,[va,vb],rfl,Qi _,by simp[maxLen],fun _=>⟨w.heap.size,0,rfl,by unfold Lt;simp,fun j u hu=>?_⟩,?_⟩
 ·rw[Nat.zero_add,World.cell?_alloc_new];simpa using hu
 exact⟨[va],_,rfl,⟨va,rfl,ha.keep hk hm⟩,[vb],_,rfl,⟨vb,rfl,hb.keep hk hm⟩,rfl⟩
theorem UY (w:World) (o:Obj):∀k,Lt w.heap.size k->Lt (w.alloc o).heap.size k:=fun k h=>by unfold Lt at *;simp;omega
theorem Z8.alloc {α:Type} {E:YA α} {w:World} {xs:List α} {v:Value} (h:Z8 E w (Lt w.heap.size) xs v) (o:Obj):Z8 E (w.alloc o) (Lt (w.alloc o).heap.size) xs v :=
 h.keep (fun p hp=>World.cell?_alloc_lt w o p hp) (UY w o)
theorem Zx (w:World) (o:Obj):Below w.heap.size w (w.alloc o):=(Qg _ _).alloc (Qi _) _
abbrev Xq (p:Xv) (vr vn vs:Value):Array Value :=
 #[.int .i64 p.op.kind,vr,.int .i64 p.op.at_,.int .i64 p.op.n,vn,.int .i64 p.op.slot,.string p.op.old,.string p.op.text,.int .i64 p.k,.int .i64 p.index,.bool p.inside,.int .i64 p.slot,vs]
theorem zU1 (p:Xv) (l:List Int) (Ar An As Al:Option Addr) (lr cr ln cn cs cl:Nat) (w:World) (hp:p.Ok) (hs:Z0 w (Lt w.heap.size) p.rest (.slice As p.rest.length cs))
  (hl:Z0 w (Lt w.heap.size) l (.slice Al l.length cl)) (hll:l.length<=1000) :
  Calls Tryz.prog 133 #[.agg (Xq p (.slice Ar lr cr) (.slice An ln cn) (.slice As p.rest.length cs)),.slice Al l.length cl] w (zGi w (YO p l)):=by
 obtain⟨hat,hn,af,hk,av,au,ah,ag,hne⟩:=hp;obtain⟨⟨kind,row,at_,n,nodes,ae,old,text⟩,k,index,inside,slot,rest⟩:=p;simp only[Xq] at *;obtain⟨o1,aj⟩:∃o,o=Obj.cells #[.int .i64 kind,.slice Ar lr cr,.int .i64 at_,.int .i64 n,.slice An ln cn,.int .i64 ae,.string old,.string text,.int .i64 k,.int .i64 index,.bool inside,.int .i64 slot,.slice As rest.length cs] 127:=⟨_,rfl⟩;cases inside with
 |
  false =>
  have HL:=hid (hl.alloc o1);subst aj;clear hl;go_enter Tryz.func133,Tryz.ntmps133
  go_wp2
  go_ret;exact⟨_,rfl,HL.out,Zx _ _⟩
 |
  true =>
  have HL:=hid ((hl.alloc o1).alloc (.cells #[.int .i64 slot] 3));have HS:=hid ((hs.alloc o1).alloc (.cells #[.int .i64 slot] 3));have HM:=hid (UT (w.alloc o1) [slot] (by simpa using zVm au) (S:=Lt ((w.alloc o1).alloc (.cells #[.int .i64 slot] 3)).heap.size) (by unfold Lt;simp) #[.int .i64 slot] 1 rfl rfl (by simp[maxLen]) 3 (w.heap.size+1) (by simp));have HC:=hid (rows3 HL.out HM.out HS.out 25 rfl (fun _ h=>h) (w.heap.size+1+1) (by simp));have HF:Hid ([l,[slot],rest].flatten.length<=1000000):=by show _<=_;simp;omega
  have HB:Hid (Below w.heap.size w (((w.alloc o1).alloc (.cells #[.int .i64 slot] 3)).alloc (.cells #[.slice Al l.length cl,.slice (some ⟨w.heap.size+1,0,none⟩) 1 1,.slice As rest.length cs] 25))) :=
   (((Zx _ _).trans ((Zx _ _).mono (by simp))).trans ((Zx _ _).mono (by simp;omega)))
  subst aj;clear hl hs;go_enter Tryz.func133,Tryz.ntmps133
  go_wp2_with fail
  with_reducible refine(Qq _ _ _ HC.out HF.out).mono ?_
  rintro e w1 ⟨v1,rfl,aa,ak⟩;have HO:=hid aa;have ax:=hid ak;clear aa ak
  go_wp2_with fail
  go_ret;exact⟨_,rfl,by have h:=HO.out.ints (S:=Lt w1.heap.size) (fun _ _ h=>h);simpa[YO] using h,HB.out.trans (ax.out.mono HB.out.size)⟩
theorem X3 (p:Xv) (Ar An As:Option Addr) (lr cr ln cn cs:Nat) (w W0:World) (hp:p.Ok) (hs:Z0 w (Lt w.heap.size) p.rest (.slice As p.rest.length cs)) (ae:Below w.heap.size w W0)
  (xs:List Int) (af:∀x∈xs,Z4 x) (hl:xs.length<=1000) (n g:Nat) (hn:n=xs.length) (hg:g=W0.heap.size) (arr:Array Value) (aa:arr=(xs.map (Value.int .i64 ·)).toArray) :
  Calls Tryz.prog 133 #[.agg (Xq p (.slice Ar lr cr) (.slice An ln cn) (.slice As p.rest.length cs)),.slice (some ⟨g,0,none⟩) n n] (W0.alloc (.cells arr 3)) (zGi w (YO p xs)):=by
 subst hn;have h1:Below w.heap.size w (W0.alloc (.cells arr 3)):=ae.trans ((Zx _ _).mono ae.size);refine(zU1 p xs Ar An As (some ⟨g,0,none⟩) lr cr ln cn cs xs.length _ hp (hs.below h1 h1.size) (UT W0 xs af (by unfold Lt;simp) arr _ aa rfl (by unfold maxLen;omega) _ g hg) hl).mono ?_;rintro e w' ⟨v,he,hv,hb⟩;exact⟨v,he,hv,h1.trans (hb.mono h1.size)⟩
theorem YP {B:Nat} {w w':World} (h:Below B w w') (n:Nat):Below B w (w'.drewN n):=h.trans (Below.mono ⟨rfl,rfl,rfl,Qi _,fun _ _=>rfl⟩ (Qi _))
def WL (p:Xv) (after:Bool):List Int :=
 if p.index<p.op.at_\/p.index=p.op.at_/\p.inside=false/\after=false then YO p [p.index] else YO p [p.index+p.k]
def Xf (p:Xv):List Int×Bool :=
 if p.index<p.op.at_\/p.index=p.op.at_/\p.inside=false then (YO p [p.index],false)
 else if p.index<p.op.at_+p.k then ([p.op.at_],true) else (YO p [p.index-p.k],false)
def XU (p:Xv) (after:Bool):List Int :=
 if p.inside=false/\p.index=p.op.at_/\p.op.n=0/\after=true then [p.op.at_+1]
 else if p.index<p.op.at_\/p.index=p.op.at_/\p.inside=false then YO p [p.index]
 else if p.index<p.op.at_+p.op.n then YO p [p.op.at_,p.op.slot,p.index-p.op.at_] else YO p [p.index-p.op.n+1]
def Xg (p:Xv):List Int×Bool :=
 if p.index<p.op.at_\/p.index=p.op.at_/\p.inside=false then (YO p [p.index],false)
 else if p.op.at_<p.index then (YO p [p.index-1+p.op.n],false)
 else if p.slot<p.op.slot then ([p.op.at_],true)
 else if p.op.slot<p.slot then ([p.op.at_+p.op.n],true)
 else ((p.op.at_+p.rest.headD 0)::p.rest.tail,false)
def zSd (w:World) (r:List Int×Bool) (e:Ending) (w':World):Prop:=∃v,e=.returned (.tuple #[v,.bool r.2])/\Z0 w' (Lt w'.heap.size) r.1 v/\Below w.heap.size w w'
theorem Yn {x:Int} (h1:-2305843009213693952<=x) (h2:x<=2305843009213693952):Z4 x:=by unfold Z4;omega
theorem zSb {w W0:World} (ae:Below w.heap.size w W0) (xs:List Int) (af:∀x∈xs,Z4 x) (hl:xs.length<=1000) (n g:Nat) (hn:n=xs.length) (hg:g=W0.heap.size) (arr:Array Value) (aa:arr=(xs.map (Value.int .i64 ·)).toArray) :
  Z0 (W0.alloc (.cells arr 3)) (Lt (W0.alloc (.cells arr 3)).heap.size) xs (.slice (some ⟨g,0,none⟩) n n)/\Below w.heap.size w (W0.alloc (.cells arr 3)) :=
 ⟨UT W0 xs af (by unfold Lt;simp) arr n aa hn (by unfold maxLen;omega) _ g hg,ae.trans ((Zx _ _).mono ae.size)⟩
def Xu (pos row:List Int):Bool:=decide (row.length<pos.length/\pos.take row.length=row/\pos.length≠row.length+2)
theorem VJ (p:Xv) (after:Bool) (Ar An As:Option Addr) (lr cr ln cn cs:Nat) (w:World) (hp:p.Ok) (hs:Z0 w (Lt w.heap.size) p.rest (.slice As p.rest.length cs)) :
  Calls Tryz.prog 131 #[.agg (Xq p (.slice Ar lr cr) (.slice An ln cn) (.slice As p.rest.length cs)),.bool after] w (zGi w (XU p after)):=by
 have H:=hid (Qh hp hs);obtain⟨aD,hn,ah,hk,av,az,au,ak,aA⟩:=hp;unfold Bd at aD hn ah av az;obtain⟨aM,aL⟩:=aD;obtain⟨aC,aB⟩:=av;obtain⟨aJ,hn2⟩:=hn;obtain⟨aG,aF⟩:=ah;obtain⟨hs1,hs2⟩:=az;have aI:=hid aA;clear au ak aA hs;obtain⟨⟨kind,row,at_,n,nodes,aa,old,text⟩,k,index,inside,slot,rest⟩:=p;simp only[Xq] at *;rcases Int.lt_trichotomy index at_ with aK|ay|hgt
 ·have ay:(index==at_)=false:=by simp;omega
  have ae:XU ⟨⟨kind,row,at_,n,nodes,aa,old,text⟩,k,index,inside,slot,rest⟩ after=YO ⟨⟨kind,row,at_,n,nodes,aa,old,text⟩,k,index,inside,slot,rest⟩ [index]:=by unfold XU;rw[if_neg (by simp;omega),if_pos (Or.inl aK)]
  cases inside
  ·skip
   have HF:=hid ae;clear ae;go_enter Tryz.func131,Tryz.ntmps131
   go_wp2_with fail
   go_quiet (fail)
   go_wp2_with fail
   refine(X3 _ Ar An As lr cr ln cn cs w _ H.out.1 H.out.2 (by first|exact Zx _ _|exact YP (Zx _ _) _) [index] (by intro x hx;simp only[List.mem_cons,List.not_mem_nil,or_false] at hx;rcases hx with rfl<;>(apply Yn<;>omega)) (by simp) _ _ rfl (by simp) _ rfl).mono ?_;rintro e w1 ⟨v1,rfl,af,ag⟩;have HV:=hid af;have HB:=hid ag;clear af ag
   go_wp2_with fail
   go_ret;rw[HF.out];exact⟨_,rfl,HV.out,HB.out⟩
  skip
  have HF:=hid ae;clear ae;go_enter Tryz.func131,Tryz.ntmps131
  go_wp2_with fail
  go_quiet (fail)
  go_wp2_with fail
  refine(X3 _ Ar An As lr cr ln cn cs w _ H.out.1 H.out.2 (by first|exact Zx _ _|exact YP (Zx _ _) _) [index] (by intro x hx;simp only[List.mem_cons,List.not_mem_nil,or_false] at hx;rcases hx with rfl<;>(apply Yn<;>omega)) (by simp) _ _ rfl (by simp) _ rfl).mono ?_;rintro e w1 ⟨v1,rfl,af,ag⟩;have HV:=hid af;have HB:=hid ag;clear af ag
  go_wp2_with fail
  go_ret;rw[HF.out];exact⟨_,rfl,HV.out,HB.out⟩
 ·subst ay;cases inside with
  |
   false =>
   by_cases ax:n=0
   ·subst ax;cases after with
    |
     true =>
     have ae:XU ⟨⟨kind,row,index,0,nodes,aa,old,text⟩,k,index,false,slot,rest⟩ true=[index+1]:=by unfold XU;rw[if_pos ⟨rfl,rfl,rfl,rfl⟩]
     have HF:=hid ae;clear ae;go_enter Tryz.func131,Tryz.ntmps131
     go_wp2_with fail
     go_quiet (fail)
     go_wp2_with fail
     go_ret;rw[HF.out];exact⟨_,rfl,zSb (by first|exact Zx _ _|exact YP (Zx _ _) _) [index+1] (by intro x hx;simp only[List.mem_cons,List.not_mem_nil,or_false] at hx;rcases hx with rfl<;>(apply Yn<;>omega)) (by simp) _ _ rfl (by simp) _ rfl⟩
    |
     false =>
     have ae:XU ⟨⟨kind,row,index,0,nodes,aa,old,text⟩,k,index,false,slot,rest⟩ false=YO ⟨⟨kind,row,index,0,nodes,aa,old,text⟩,k,index,false,slot,rest⟩ [index]:=by unfold XU;rw[if_neg (by simp),if_pos (Or.inr ⟨rfl,rfl⟩)]
     have HF:=hid ae;clear ae;go_enter Tryz.func131,Tryz.ntmps131
     go_wp2_with fail
     go_quiet (fail)
     go_wp2_with fail
     refine(X3 _ Ar An As lr cr ln cn cs w _ H.out.1 H.out.2 (by first|exact Zx _ _|exact YP (Zx _ _) _) [index] (by intro x hx;simp only[List.mem_cons,List.not_mem_nil,or_false] at hx;rcases hx with rfl<;>(apply Yn<;>omega)) (by simp) _ _ rfl (by simp) _ rfl).mono ?_;rintro e w1 ⟨v1,rfl,af,ag⟩;have HV:=hid af;have HB:=hid ag;clear af ag
     go_wp2_with fail
     go_ret;rw[HF.out];exact⟨_,rfl,HV.out,HB.out⟩
   have aJ:(n==0)=false:=by simpa using ax
   have ae:XU ⟨⟨kind,row,index,n,nodes,aa,old,text⟩,k,index,false,slot,rest⟩ after=YO ⟨⟨kind,row,index,n,nodes,aa,old,text⟩,k,index,false,slot,rest⟩ [index]:=by unfold XU;rw[if_neg (by simp[ax]),if_pos (Or.inr ⟨rfl,rfl⟩)]
   clear ax;have HF:=hid ae;clear ae;go_enter Tryz.func131,Tryz.ntmps131
   go_wp2_with fail
   go_quiet (fail)
   go_wp2_with fail
   refine(X3 _ Ar An As lr cr ln cn cs w _ H.out.1 H.out.2 (by first|exact Zx _ _|exact YP (Zx _ _) _) [index] (by intro x hx;simp only[List.mem_cons,List.not_mem_nil,or_false] at hx;rcases hx with rfl<;>(apply Yn<;>omega)) (by simp) _ _ rfl (by simp) _ rfl).mono ?_;rintro e w1 ⟨v1,rfl,af,ag⟩;have HV:=hid af;have HB:=hid ag;clear af ag
   go_wp2_with fail
   go_ret;rw[HF.out];exact⟨_,rfl,HV.out,HB.out⟩
  |
   true =>
   by_cases aj:index<index+n
   ·have ae:XU ⟨⟨kind,row,index,n,nodes,aa,old,text⟩,k,index,true,slot,rest⟩ after=YO ⟨⟨kind,row,index,n,nodes,aa,old,text⟩,k,index,true,slot,rest⟩ [index,aa,0]:=by unfold XU;rw[if_neg (by simp),if_neg (by simp),if_pos aj];simp
    have hd:decide (index<index+n)=true:=by simpa using aj
    have HF:=hid ae;clear ae;go_enter Tryz.func131,Tryz.ntmps131
    go_wp2_with fail
    go_quiet (fail)
    go_wp2_with fail
    refine(X3 _ Ar An As lr cr ln cn cs w _ H.out.1 H.out.2 (by first|exact Zx _ _|exact YP (Zx _ _) _) [index,aa,0] (by intro x hx;simp only[List.mem_cons,List.not_mem_nil,or_false] at hx;rcases hx with rfl|rfl|rfl<;>(apply Yn<;>omega)) (by simp) _ _ rfl (by simp) _ rfl).mono ?_;rintro e w1 ⟨v1,rfl,af,ag⟩;have HV:=hid af;have HB:=hid ag;clear af ag
    go_wp2_with fail
    go_ret;rw[HF.out];exact⟨_,rfl,HV.out,HB.out⟩
   have ae:XU ⟨⟨kind,row,index,n,nodes,aa,old,text⟩,k,index,true,slot,rest⟩ after=YO ⟨⟨kind,row,index,n,nodes,aa,old,text⟩,k,index,true,slot,rest⟩ [index-n+1]:=by unfold XU;rw[if_neg (by simp),if_neg (by simp),if_neg aj]
   have hd:decide (index<index+n)=false:=by simpa using aj
   have HF:=hid ae;clear ae;go_enter Tryz.func131,Tryz.ntmps131
   go_wp2_with fail
   go_quiet (fail)
   go_wp2_with fail
   refine(X3 _ Ar An As lr cr ln cn cs w _ H.out.1 H.out.2 (by first|exact Zx _ _|exact YP (Zx _ _) _) [index-n+1] (by intro x hx;simp only[List.mem_cons,List.not_mem_nil,or_false] at hx;rcases hx with rfl<;>(apply Yn<;>omega)) (by simp) _ _ rfl (by simp) _ rfl).mono ?_;rintro e w1 ⟨v1,rfl,af,ag⟩;have HV:=hid af;have HB:=hid ag;clear af ag
   go_wp2_with fail
   go_ret;rw[HF.out];exact⟨_,rfl,HV.out,HB.out⟩
 have ay:(index==at_)=false:=by simp;omega
 have aH:decide (index<at_)=false:=by simp;omega
 by_cases aj:index<at_+n
 ·have ae:XU ⟨⟨kind,row,at_,n,nodes,aa,old,text⟩,k,index,inside,slot,rest⟩ after=YO ⟨⟨kind,row,at_,n,nodes,aa,old,text⟩,k,index,inside,slot,rest⟩ [at_,aa,index-at_]:=by unfold XU;rw[if_neg (by simp;omega),if_neg (by simp;omega),if_pos aj]
  cases inside
  ·skip
   have HF:=hid ae;clear ae;go_enter Tryz.func131,Tryz.ntmps131
   go_wp2_with fail
   go_quiet (fail)
   go_wp2_with fail
   refine(X3 _ Ar An As lr cr ln cn cs w _ H.out.1 H.out.2 (by first|exact Zx _ _|exact YP (Zx _ _) _) [at_,aa,index-at_] (by intro x hx;simp only[List.mem_cons,List.not_mem_nil,or_false] at hx;rcases hx with rfl|rfl|rfl<;>(apply Yn<;>omega)) (by simp) _ _ rfl (by simp) _ rfl).mono ?_;rintro e w1 ⟨v1,rfl,af,ag⟩;have HV:=hid af;have HB:=hid ag;clear af ag
   go_wp2_with fail
   go_ret;rw[HF.out];exact⟨_,rfl,HV.out,HB.out⟩
  skip
  have HF:=hid ae;clear ae;go_enter Tryz.func131,Tryz.ntmps131
  go_wp2_with fail
  go_quiet (fail)
  go_wp2_with fail
  refine(X3 _ Ar An As lr cr ln cn cs w _ H.out.1 H.out.2 (by first|exact Zx _ _|exact YP (Zx _ _) _) [at_,aa,index-at_] (by intro x hx;simp only[List.mem_cons,List.not_mem_nil,or_false] at hx;rcases hx with rfl|rfl|rfl<;>(apply Yn<;>omega)) (by simp) _ _ rfl (by simp) _ rfl).mono ?_;rintro e w1 ⟨v1,rfl,af,ag⟩;have HV:=hid af;have HB:=hid ag;clear af ag
  go_wp2_with fail
  go_ret;rw[HF.out];exact⟨_,rfl,HV.out,HB.out⟩
 have ae:XU ⟨⟨kind,row,at_,n,nodes,aa,old,text⟩,k,index,inside,slot,rest⟩ after=YO ⟨⟨kind,row,at_,n,nodes,aa,old,text⟩,k,index,inside,slot,rest⟩ [index-n+1]:=by unfold XU;rw[if_neg (by simp;omega),if_neg (by simp;omega),if_neg aj]
 cases inside
 ·skip
  have HF:=hid ae;clear ae;go_enter Tryz.func131,Tryz.ntmps131
  go_wp2_with fail
  go_quiet (fail)
  go_wp2_with fail
  refine(X3 _ Ar An As lr cr ln cn cs w _ H.out.1 H.out.2 (by first|exact Zx _ _|exact YP (Zx _ _) _) [index-n+1] (by intro x hx;simp only[List.mem_cons,List.not_mem_nil,or_false] at hx;rcases hx with rfl<;>(apply Yn<;>omega)) (by simp) _ _ rfl (by simp) _ rfl).mono ?_;rintro e w1 ⟨v1,rfl,af,ag⟩;have HV:=hid af;have HB:=hid ag;clear af ag
  go_wp2_with fail
  go_ret;rw[HF.out];exact⟨_,rfl,HV.out,HB.out⟩
 skip
 have HF:=hid ae;clear ae;go_enter Tryz.func131,Tryz.ntmps131
 go_wp2_with fail
 go_quiet (fail)
 go_wp2_with fail
 refine(X3 _ Ar An As lr cr ln cn cs w _ H.out.1 H.out.2 (by first|exact Zx _ _|exact YP (Zx _ _) _) [index-n+1] (by intro x hx;simp only[List.mem_cons,List.not_mem_nil,or_false] at hx;rcases hx with rfl<;>(apply Yn<;>omega)) (by simp) _ _ rfl (by simp) _ rfl).mono ?_;rintro e w1 ⟨v1,rfl,af,ag⟩;have HV:=hid af;have HB:=hid ag;clear af ag
 go_wp2_with fail
 go_ret;rw[HF.out];exact⟨_,rfl,HV.out,HB.out⟩
