/- T -/
import Derived.Test.YthpngeboknmllaaGreatQ24ea
set_option linter.unusedVariables false
set_option linter.unusedSimpArgs false
set_option maxHeartbeats 4000000
set_option maxRecDepth 100000
namespace Go.Proofs.YthpngeboknmllaaGreat
open Go.RowKit
theorem RS {w:World} {b:Nat} {S:Nat->Prop} {xss yss:List Z9} {v:Value} {ops:Array Oper} {rest:List Oper} {o:Oper} {a:Act} {Q:Exit->Act->World->Prop} (az:o.guard=none) (s x:Operand)
  (ho:o.op=.call { callee:=.builtin .append,args:=#[s,x],argTypes:=#[22,22] })
  (aA:∀k,S k->k<b) (hs:a.eval s=v) (aa:Zq w b S xss v) (B:Nat->Prop) (A:Option Addr) (m c:Nat) (rs:List Value) (hx:a.eval x=.slice A m c) (hm:m=yss.length) (av:Zd w B A rs) (ae:ZG Z6 w S yss rs)
  (af:xss.length+yss.length<=1000000000) (hb:b<=w.heap.size)
  (h:∀v' w',Zq w' b S (xss++yss) v'->Below b w w'->wpList Tryz.prog ops Q rest (a.put o.dst v') w'):wpList Tryz.prog ops Q (o::rest) a w:=by
 subst hm;obtain⟨i0,ay,au,ak,aj⟩:=info_parts Rn;obtain⟨cs,ag,ax⟩:=aa;have hl:=ae.len;refine TF w az s x 22 ho b 24 i0 _ 4 56 Tryz.underlying22 ay au ak aj rfl (by omega) v _ _ hs ag _ A _ c rs hx hl av ae.one (by simp only[maxLen];omega) (by omega) hb ?_;intro v' w' h3 h4 h5;have ah:=Un _ ag h4 hb;exact h v' w' (zJf aA ax ae h3 ah) ah
theorem Zq.sl {w:World} {b:Nat} {S:Nat->Prop} {ts:List Z9} {v:Value} (h:Zq w b S ts v):∃A n c,v=.slice A n c:=by
 obtain⟨A,c,e⟩:=h.form;exact⟨A,_,c,e⟩
theorem Zq.kept {w w':World} {b g:Nat} {S:Nat->Prop} {ts:List Z9} {v:Value} (h:Zq w b S ts v) (hk:ZY (fun k=>k=g) w w') (hg:g<b) (hS:∀k,S k->k<w.heap.size/\k≠g):Zq w' b S ts v:=by
 obtain⟨cs,⟨hl,h1⟩,h2⟩:=h;refine⟨cs,⟨hl,?_⟩,h2.keep (fun p hp=>hk.cell (hS _ hp).1 (hS _ hp).2) (fun _ h=>h)⟩;rcases h1 with h1|⟨g',cap,ae,rfl,aa,hh,p1,p2,p3,p4⟩
 ·exact .inl h1
 refine .inr ⟨g',cap,ae,rfl,aa,?_,p1,p2,p3,p4⟩;rw[hk.block g' (Array.getElem?_eq_some_iff.1 hh).1 (by omega)];exact hh
theorem ZG.kind {w:World} {S:Nat->Prop}:∀(ts:List Z9) (cs:List Value) (i:Nat),ZG Z6 w S ts cs->ZG Z6 w S (ts.set i (VN (ts.getD i ZN))) (cs.set (i*4) (.int .i64 1))
 |
  [],cs,i,h=>by
  simp only[ZG] at h;subst h;simp[ZG]
 |
  t::ts,cs,0,h=>by
  obtain⟨c,r,rfl,hc,hr⟩:=h;obtain⟨v,rfl,a1,a2,a3,a4⟩:=Yl.1 hc;exact⟨[.int .i64 1,.string t.text,.int .i64 t.cols,v],r,rfl,Yl.2 ⟨v,rfl,by simp[Z4,VN,Z9.kind],a2,a3,a4⟩,hr⟩
 |
  t::ts,cs,i+1,h=>by
  obtain⟨c,r,rfl,hc,hr⟩:=h;obtain⟨v,rfl,a1,a2,a3,a4⟩:=Yl.1 hc;refine⟨[.int .i64 t.kind,.string t.text,.int .i64 t.cols,v],r.set (i*4) (.int .i64 1),?_,hc,ZG.kind ts r i hr⟩;rw[List.set_append_right _ _ (by simp;omega)];congr 2;simp;omega
theorem Zq.kind {w:World} {b g n c:Nat} {S:Nat->Prop} {ts:List Z9} (h:Zq w b S ts (.slice (some ⟨g,0,none⟩) n c)) (hn:n=ts.length) (hS:∀k,S k->k<b) (hbg:b<=g) (i:Nat) :
  Zq (w.setCell ⟨g,i*4,none⟩ (.int .i64 1)) b S (ts.set i (VN (ts.getD i ZN))) (.slice (some ⟨g,0,none⟩) n c):=by
 subst hn;obtain⟨cs,h1,h2⟩:=h;refine⟨cs.set (i*4) (.int .i64 1),?_,?_⟩
 ·rw[List.length_set];exact(h1.stored (i*4) (.int .i64 1)).1
 refine(ZG.kind ts cs i h2).keep (fun p hp=>?_) (fun _ h=>h);have:=hS _ hp;exact World.cell?_of_block (Below.heap_setCell w _ _ _ (by simp;omega))
def VO (ts:List Z9) (j:Nat):List Z9:=(ts.take j).map VN++ts.drop j
theorem zSi (ts:List Z9) (j:Nat):(VO ts j).length=ts.length:=by unfold VO;simp;omega
theorem zTu (ts:List Z9) {j:Nat} (hj:j<ts.length):(VO ts j).set j (VN ((VO ts j).getD j ZN))=VO ts (j+1):=by
 have hl:((ts.take j).map VN).length=j:=by simp;omega
 have e1:ts.drop j=ts[j]::ts.drop (j+1):=List.drop_eq_getElem_cons hj;have e2:(VO ts j).getD j ZN=ts[j]:=by
  unfold VO;rw[List.getD_eq_getElem?_getD,List.getElem?_append_right (by omega),hl,Nat.sub_self,e1];rfl
 rw[e2];unfold VO;rw[List.set_append_right _ _ (by omega),hl,Nat.sub_self,e1,List.set_cons_zero,List.take_succ_eq_append_getElem hj,List.map_append,List.append_assoc];rfl
theorem zUo (ts:List Z9):VO ts ts.length=ts.map VN:=by unfold VO;simp
theorem zUf (c s:Nat) (columns:Bool) (ts:List Z9):∀k,k<=ts.length->ZQ (Zi (Z7 []) c s columns ts k)<=ZQ (ts.take k)+k*(c+1)
 |0,_=>by simp[Zi,ZQ]
 |
  k+1,hk=>by
  have ih:=zUf c s columns ts k (by omega);have e1:ts.getD k ZN=ts[k]:=by rw[List.getD_eq_getElem?_getD,List.getElem?_eq_getElem (by omega)];rfl
  have aa:∀n,ZQ (List.replicate n (Z7 []))=n:=fun n=>by
   induction n with
   |zero=>rfl
   |
    succ n ih =>
    have h1:ZR (Z7 [])=1:=rfl;rw[List.replicate_succ,ZQ,ih,h1];omega
  have hp:ZQ (Va (Z7 []) c s columns k)<=c+1:=by
   unfold Va;rw[SC];have h2:ZQ (if columns=true/\k % c=s % c then [Z7 []] else [])<=1:=by split<;>simp[ZQ,Z7,ZR]
   have h3:ZQ (if columns=false/\k=s / c*c+c-1 then List.replicate c (Z7 []) else [])<=c:=by
    split
    ·rw[aa];exact Qi _
    exact Qj _
   omega
  rw[Zi,SC,WV (by omega:k<ts.length),e1];simp only[ZQ];rw[Nat.add_mul];omega
theorem Vq (t:Z9) (p m:List Int) (s:Int) (items:List Z9) (x:ByteArray) (f:Bool) (A Ap Am An:Option Addr) (cap cp cm cn:Nat) (w:World) (aa:Ze×Int)
  (hC:∀W,Below w.heap.size w W->Calls Tryz.prog 26 #[.agg #[.int .i64 t.kind,.string t.text,.int .i64 t.cols,.slice A t.kids.length cap],.agg #[.slice Ap p.length cp,.slice Am m.length cm],.string x] W (Zh W aa)) :
  Calls Tryz.prog 8 #[.agg #[.int .i64 t.kind,.string t.text,.int .i64 t.cols,.slice A t.kids.length cap],.agg #[.slice Ap p.length cp,.slice Am m.length cm],.agg #[.int .i64 5,.slice An items.length cn,.int .i64 s,.string x,.bool f]] w (Zh w aa):=by
 obtain⟨W0,af⟩:∃W0,(((w.alloc (.cells #[.int .i64 t.kind,.string t.text,.int .i64 t.cols,.slice A t.kids.length cap] 24)).alloc (.cells #[.slice Ap p.length cp,.slice Am m.length cm] 27)).alloc (.cells #[.int .i64 5,.slice An items.length cn,.int .i64 s,.string x,.bool f] 30)).alloc (.cells #[.slice none 0 0,.slice none 0 0,.slice none 0 0,.slice none 0 0,.slice none 0 0] 35)=W0:=⟨_,rfl⟩;have az:Below w.heap.size w W0:=by rw[<-af];exact Zy (Zy (Zy (ZW _ _) _) _) _
 have ah:Z5 W0 w.heap.size (.cells #[.int .i64 t.kind,.string t.text,.int .i64 t.cols,.slice A t.kids.length cap] 24):=by rw[<-af];exact(((Z5.at0 _ _).al _).al _).al _
 have ax:Z5 W0 (w.heap.size+1) (.cells #[.slice Ap p.length cp,.slice Am m.length cm] 27):=by rw[<-af];exact((Z5.at1 _ _ _).al _).al _
 have ae:Z5 W0 (w.heap.size+1+1) (.cells #[.int .i64 5,.slice An items.length cn,.int .i64 s,.string x,.bool f] 30):=by rw[<-af];exact(Z5.at2 _ _ _ _).al _
 have aJ:Hid (Z5 W0 (w.heap.size+1+1+1) (.cells #[.slice none 0 0,.slice none 0 0,.slice none 0 0,.slice none 0 0,.slice none 0 0] 35)):=by show Z5 _ _ _;rw[<-af];exact Z5.new _ _ _ (by simp)
 have HC:=hid (hC W0 az);have aL:=hid az;have m0:=ah.cell 0;have m1:=ah.cell 1;have m2:=ah.cell 2;have m3:=ah.cell 3;have n0:=ax.cell 0;have n1:=ax.cell 1;have c0:=ae.cell 0;have c1:=ae.cell 1;have c2:=ae.cell 2;have c3:=ae.cell 3;have c4:=ae.cell 4;simp only[List.getElem?_toArray,List.getElem?_cons_zero,List.getElem?_cons_succ] at m0 m1 m2 m3 n0 n1 c0 c1 c2 c3 c4;clear hC az ah ax ae;go_enter Tryz.func8,Tryz.ntmps8
 go_wp2_with fail
 refine HC.out.mono ?_;intro e wk ag;have aA:=hid ag;obtain⟨aH,aD,aG,aC,aI,aF,au,aj,av,ak,rfl,_,_,_,_,_,ay⟩:=ag;have aB:=hid (aJ.out.below ay);have aK:=hid (Zo aL.out ay);clear ay m0 m1 m2 m3 n0 n1 c0 c1 c2 c3 c4 af
 go_wp2_with (first
  |(refine wpList_store_row rfl 35 (.tmp 6) (.tmp 61) rfl (w.heap.size+1+1+1) #[.slice aH aa.1.ops.length aD,.slice aG aa.1.bp.length aC,.slice aI aa.1.bm.length aF,.slice au aa.1.ap.length aj,.slice av aa.1.am.length ak] rfl rfl 35 _ aB.out (by kernel_rfl) (by simp) (by simp[Value.oneCell']) ?_)
  |fail)
 refine bodyPost_ret (v:=.tuple #[.agg #[.slice aH aa.1.ops.length aD,.slice aG aa.1.bp.length aC,.slice aI aa.1.bm.length aF,.slice au aa.1.ap.length aj,.slice av aa.1.am.length ak],.int .i64 aa.2]) (Y1 Tryz.results8 _ _ _ (w.heap.size+1+1+1) 35 _ (0,0) _ rfl (aB.out.row _) rfl Tryz.underlying35 (by kernel_rfl) _ rfl) rfl ?_;exact Zh.put (arr:=#[]) aA.out aB.out (ZY.setRow _ _ _) (size_setRow _ _ _) aK.out (by omega)
