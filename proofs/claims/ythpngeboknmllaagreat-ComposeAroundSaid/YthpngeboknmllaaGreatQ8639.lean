/- T -/
import Derived.Test.YthpngeboknmllaaGreatQ05dc
import Derived.Test.YthpngeboknmllaaGreatQ9e16
import Derived.Test.YthpngeboknmllaaGreatQa6dc
import Derived.Test.YthpngeboknmllaaGreatQ5cc1
set_option linter.unusedVariables false
set_option linter.unusedSimpArgs false
set_option maxHeartbeats 1000000
set_option maxRecDepth 100000
namespace Go.Proofs.YthpngeboknmllaaGreat
open Go.RowKit
structure Sz where
 t:Z9
 A:Option Addr
 cap:Nat
 p:List Int
 Ap:Option Addr
 cp:Nat
 m:List Int
 Am:Option Addr
 cm:Nat
 rr:List Int
 Ar:Option Addr
 cr:Nat
 ra:Int
 rb:Int
 q:List Int
 A1:Option Addr
 c1:Nat
 o:Int
 its:List Z9
 Ai:Option Addr
 ci:Nat
 ar:Bool
 q2:List Int
 A2:Option Addr
 c2:Nat
 i:Int
 s:Int
 it:Z9
 A3:Option Addr
 c3:Nat
def UB (d:Sz):Array Value:=#[.int .i64 d.t.kind,.string d.t.text,.int .i64 d.t.cols,.slice d.A d.t.kids.length d.cap,.slice d.Ap d.p.length d.cp,.slice d.Am d.m.length d.cm,.slice d.Ar d.rr.length d.cr,.int .i64 d.ra,.int .i64 d.rb,.slice d.A1 d.q.length d.c1,.int .i64 d.o,.slice d.Ai d.its.length d.ci,.bool d.ar,.slice d.A2 d.q2.length d.c2,.int .i64 d.i,.int .i64 d.s,.int .i64 d.it.kind,.string d.it.text,.int .i64 d.it.cols,.slice d.A3 d.it.kids.length d.c3]
structure Tt (w:World) (d:Sz):Prop where
 tk:Z8 Z7 w (Lt w.heap.size) d.t.kids (.slice d.A d.t.kids.length d.cap)
 tok:Zt d.t
 tct:ZW d.t<=900000
 p:Z0 w (Lt w.heap.size) d.p (.slice d.Ap d.p.length d.cp)
 m:Z0 w (Lt w.heap.size) d.m (.slice d.Am d.m.length d.cm)
 pl:d.p.length<=90000
 ml:d.m.length<=90000
 r:Z0 w (Lt w.heap.size) d.rr (.slice d.Ar d.rr.length d.cr)
 q:Z0 w (Lt w.heap.size) d.q (.slice d.A1 d.q.length d.c1)
 its:Z8 Z7 w (Lt w.heap.size) d.its (.slice d.Ai d.its.length d.ci)
 q2:Z0 w (Lt w.heap.size) d.q2 (.slice d.A2 d.q2.length d.c2)
 it:Z8 Z7 w (Lt w.heap.size) d.it.kids (.slice d.A3 d.it.kids.length d.c3)
 of:ZI d.t d.p d.m=((d.rr,d.ra,d.rb),0)
 pe:d.p=d.q++[d.o]
 ie:d.its=(ZR d.t d.q).1.kids
 ar0:d.ar=false->Zz d.t d.p=none
 ar1:d.ar=true->Zz d.t d.p=some ⟨d.q2,d.i,d.s,d.it⟩/\Zt d.it/\ZW d.it<=1000/\d.q=d.q2++[d.i,d.s]/\∃s':Nat,d.s=s'/\∃h:s'<d.it.kids.length,d.it.kids[s']=Z6 d.its
theorem Tt.bl {w w':World} {d:Sz} (h:Tt w d) (hb:Below w.heap.size w w'):Tt w' d :=
 ⟨h.tk.below hb hb.size,h.tok,h.tct,h.p.below hb hb.size,h.m.below hb hb.size,h.pl,h.ml,h.r.below hb hb.size,h.q.below hb hb.size,h.its.below hb hb.size,h.q2.below hb hb.size,h.it.below hb hb.size,h.of,h.pe,h.ie,h.ar0,h.ar1⟩
theorem RD {w:World} {S:Nat->Prop} {l:List Z9} {v:Value} (h:Z8 Z7 w S l v) {k:Nat} (hk:k<l.length):Zt l[k]:=by
 obtain⟨_,_,_,_,_,_,_,hl⟩:=h;obtain⟨c,_,hR,_⟩:=hl.at_ hk;obtain⟨v1,_,a1,a2,a3,_⟩:=YI.1 hR;exact⟨a1,a2,a3⟩
theorem zJp {w:World} {S:Nat->Prop}:(p:List Int)->(t:Z9)->(ZM t p).2=true->(∃v,Z8 Z7 w S t.kids v)->∃v,Z8 Z7 w S (ZM t p).1.kids v
 |[],t,_,h=>h
 |[_],t,h,_=>by simp[ZM] at h
 |
  i::k::p,t,h,hv=>by
  obtain⟨hi,hk,he⟩:=Vr t i k p h;rw[he] at h ⊢;refine zJp p _ h ?_;obtain⟨v,A,cap,cs,rfl,_,_,_,hl⟩:=hv;obtain⟨c,_,hR,_⟩:=hl.at_ hi.2;obtain⟨v1,rfl,a1,a2,a3,ae⟩:=YI.1 hR;rw[<-Yq hi.2] at ae;obtain⟨A1,ah,cs1,rfl,_,_,_,af⟩:=ae;obtain⟨c1,_,ag,_⟩:=af.at_ hk.2;obtain⟨v2,rfl,b1,b2,b3,aa⟩:=YI.1 ag;rw[<-Yq hk.2] at aa;exact⟨v2,aa⟩
theorem zMe {w:World} {S:Nat->Prop} {t:Z9} {p m q2:List Int} {i s o:Int} {v:Value} (hv:Z8 Z7 w S t.kids v) (h:(ZI t p m).2=0) (hp:p=q2++[i,s]++[o]) :
  Zz t p=some ⟨q2,i,s,(Y6 t q2 i).1⟩/\Zt (Y6 t q2 i).1/\ZW (Y6 t q2 i).1<=1000/\∃s':Nat,s=s'/\∃h:s'<(Y6 t q2 i).1.kids.length,(Y6 t q2 i).1.kids[s']=Z6 (ZR t (q2++[i,s])).1.kids:=by
 obtain⟨ae,aa,_⟩:=VM h;rw[hp] at aa;obtain⟨h4,hi,hk,h7,_⟩:=Tc aa;have h8:=(TE aa).1;have e1:(Y6 t q2 i).1=ZY (ZM t q2).1 i:=by
  unfold Y6;rw[TF ae h4,if_neg (by simp),if_neg (by simp only;omega)];simp only[WA,ZY]
 have e2:=Yq hi.2;have hr:=Ri ae h8;obtain⟨v1,af⟩:=zJp q2 t h4 ⟨v,hv⟩;have hc:=Vq t q2;have hc2:=Tz hi.2;have hvc:=(X0 ae).1;refine⟨?_,?_,?_,s.toNat,by omega,?_⟩
 ·unfold Zz;rw[hp,if_neg (by simp)];simp only[List.append_assoc,List.cons_append,List.nil_append,List.length_append,List.length_cons,List.length_nil,Nat.zero_add,Nat.reduceAdd,Nat.add_sub_cancel,List.take_left'];have g1:(q2++[i,s,o]).getD q2.length 0=i:=by rw[List.getD_eq_getElem?_getD,List.getElem?_append_right (Nat.le_refl _)];simp
  have g2:(q2++[i,s,o]).getD (q2.length+3-2) 0=s:=by rw[List.getD_eq_getElem?_getD,List.getElem?_append_right (by omega),show q2.length+3-2-q2.length=1 by omega];rfl
  rw[g1,g2]
 ·rw[e1,e2];exact RD af hi.2
 ·rw[e1,e2];omega
 rw[e1];refine⟨hk.2,?_⟩;rw[<-Yq hk.2,<-h7,hr,TF ae h8]
theorem zQw {t:Z9} {o:Int}:Zz t [o]=none:=by unfold Zz;rw[if_pos (by simp)]
theorem zSh (t:Z9) (p m:List Int) (A Ap Am:Option Addr) (cap cp cm:Nat) (w:World) (hv:Z8 Z7 w (Lt w.heap.size) t.kids (.slice A t.kids.length cap)) (aa:Zt t) (ae:ZW t<=900000) (hp:Z0 w (Lt w.heap.size) p (.slice Ap p.length cp)) (hm:Z0 w (Lt w.heap.size) m (.slice Am m.length cm)) (af:p.length<=90000) (ah:m.length<=90000) :
  Calls Tryz.prog 42 #[.agg #[.int .i64 t.kind,.string t.text,.int .i64 t.cols,.slice A t.kids.length cap],.agg #[.slice Ap p.length cp,.slice Am m.length cm]] w fun e w'=>Below w.heap.size w w' /\
   (
    ((ZI t p m).2≠0/\e=.returned (.tuple #[.agg #[.int .i64 0,.string ⟨#[]⟩,.int .i64 0,.slice none 0 0,.slice none 0 0,.slice none 0 0,.slice none 0 0,.int .i64 0,.int .i64 0,.slice none 0 0,.int .i64 0,.slice none 0 0,.bool false,.slice none 0 0,.int .i64 0,.int .i64 0,.int .i64 0,.string ⟨#[]⟩,.int .i64 0,.slice none 0 0],.int .i64 (ZI t p m).2])) \/
    ((ZI t p m).2=0/\∃rr Ar cr ra rb q A1 o its Ai ci ar q2 A2 c2 i s it A3 c3,e=.returned (.tuple #[.agg (UB ⟨t,A,cap,p,Ap,cp,m,Am,cm,rr,Ar,cr,ra,rb,q,A1,cp,o,its,Ai,ci,ar,q2,A2,c2,i,s,it,A3,c3⟩),.int .i64 0])/\Tt w' ⟨t,A,cap,p,Ap,cp,m,Am,cm,rr,Ar,cr,ra,rb,q,A1,cp,o,its,Ai,ci,ar,q2,A2,c2,i,s,it,A3,c3⟩)):=by
 refine(zT8 t p m A Ap Am cap cp cm w hv aa ae hp hm (by omega)).mono ?_;rintro e w' (⟨h1,rfl,hb⟩|⟨h1,q,o,Ar,cr,A1,Ai,ci,hpe,hr,hq,hi,hb,h2⟩)
 ·exact⟨hb,.inl ⟨h1,rfl⟩⟩
 refine⟨hb,.inr ⟨h1,(ZI t p m).1.1,Ar,cr,(ZI t p m).1.2.1,(ZI t p m).1.2.2,q,A1,o,(ZR t q).1.kids,Ai,ci,?_⟩⟩;have ag:ZI t p m=(((ZI t p m).1.1,(ZI t p m).1.2.1,(ZI t p m).1.2.2),0):=by rw[<-h1]
 have kn:∀k,U0 w w' k->Lt w'.heap.size k:=fun k hk=>hk.2
 have ko:∀k,Lt w.heap.size k->Lt w'.heap.size k:=fun k hk=>QV hk hb.size
 rcases h2 with ⟨rfl,rfl⟩|⟨q2,i,s,A2,A3,c3,rfl,ai,aj,rfl⟩
 ·refine⟨false,[],none,0,0,0,ZJ,none,0,rfl,⟨hv.below hb hb.size,aa,ae,hp.below hb hb.size,hm.below hb hb.size,af,ah,hr.keep (fun _ _=>rfl) kn,hq.keep (fun _ _=>rfl) ko,hi.keep (fun _ _=>rfl) kn,Z8.nil_ 0 (QU _) none,Z8.nil_ 0 (QU _) none,ag,hpe,rfl,fun _=>?_,fun h=>by cases h⟩⟩;show Zz t p=none;rw[hpe];exact zQw
 refine⟨true,q2,A2,cp,i,s,(Y6 t q2 i).1,A3,c3,rfl,⟨hv.below hb hb.size,aa,ae,hp.below hb hb.size,hm.below hb hb.size,af,ah,hr.keep (fun _ _=>rfl) kn,hq.keep (fun _ _=>rfl) ko,hi.keep (fun _ _=>rfl) kn,ai.keep (fun _ _=>rfl) ko,aj.keep (fun _ _=>rfl) kn,ag,hpe,rfl,fun h=>(by cases h),fun _=>?_⟩⟩;obtain⟨a1,a2,a3,a4⟩:=zMe hv h1 hpe;exact⟨a1,a2,a3,rfl,a4⟩
class Sr (W X:World):Prop where
 b:Below W.heap.size W X
instance (W:World):Sr W W:=⟨Below.refl _ _⟩
instance (W X:World) (o:Obj) [h:Sr W X]:Sr W (X.alloc o):=⟨bAl h.b o⟩
instance (W X:World) [h:Sr W X]:Sr W X.drew:=⟨Below.drew h.b⟩
theorem bw {W X:World} [h:Sr W X]:Below W.heap.size W X:=h.b
theorem bwt {w0 W X:World} (h:Below w0.heap.size w0 W) [Sr W X]:Below w0.heap.size w0 X:=h.trans (bw.mono h.size)
class UZ (g:Nat) (W X:World):Prop where
 k:ZZ (fun k=>k=g) W X
theorem ZZ.trans' {N:Nat->Prop} {w W X:World} (h:ZZ N w W) (k:ZZ N W X):ZZ N w X:=(h.trans k).mono (fun _ _ e=>e.elim id id)
instance (g:Nat) (W:World):UZ g W W:=⟨ZZ.of_below (Below.refl _ _) _⟩
instance (g:Nat) (W X:World) (o:Obj) [h:UZ g W X]:UZ g W (X.alloc o):=⟨h.k.trans' (ZZ.of_below bw _)⟩
instance (g:Nat) (W X:World) [h:UZ g W X]:UZ g W X.drew:=⟨h.k.trans' (ZZ.of_below bw _)⟩
instance (g i:Nat) (v:Value) (W X:World) [h:UZ g W X]:UZ g W (X.setCell ⟨g,i,none⟩ v):=⟨h.k.trans' (ZZ.set X ⟨g,i,none⟩ v)⟩
theorem kw {g:Nat} {W X:World} [h:UZ g W X]:ZZ (fun k=>k=g) W X:=h.k
theorem kwt {g:Nat} {w0 W X:World} (h:Below w0.heap.size w0 W) [UZ g W X]:ZZ (fun k=>k=g) w0 X:=(ZZ.of_below h _).trans' kw
theorem Sg {α:Type} {E:YW α} {F:Nat->Prop} {b:Nat} {X w':World} {xs:List α} {v:Value} (aa:∀k,F k->b<=k) (ae:∀k,F k->k<X.heap.size) (h:Z8 E w' (fun k=>k<w'.heap.size/\(Lt b k\/X.heap.size<=k)) xs v):Z8 E w' (NF F w') xs v :=
 h.keep (fun _ _=>rfl) (fun k hk=>⟨hk.1,fun e=>hk.2.elim (fun h1=>absurd (aa k e) (by unfold Lt at h1;omega)) (fun h1=>absurd (ae k e) (by omega))⟩)
theorem Zv.put {w0:World} {r:Za×Int} {e:Ending} {w' X:World} {g:Nat} {arr:Array Value} {T:TypeId} (h:Zv w0 r e w') (ho:Z5 w' g (.cells #[.slice none 0 0,.slice none 0 0,.slice none 0 0,.slice none 0 0,.slice none 0 0] T)) (hk:ZZ (fun k=>k=g) w' X) (hz:X.heap.size=w'.heap.size) {w1:World} (hb:Below w1.heap.size w1 w') (hg:w1.heap.size<=g):Zv w1 r e X:=by
 have h1:Zv w1 r e w':=by
  obtain⟨A1,c1,A2,c2,A3,c3,A4,c4,A5,c5,he,r1,r2,r3,r4,r5,_⟩:=h;exact⟨A1,c1,A2,c2,A3,c3,A4,c4,A5,c5,he,r1,r2,r3,r4,r5,hb⟩
 refine h1.store (RF ho) (fun k ae=>?_) hz (hb.trans (hk.below hb.size (fun k e=>by rw[e];exact hg)));by_cases aa:k<w'.heap.size
 ·exact hk.block k aa ae
 rw[Array.getElem?_eq_none (by omega),Array.getElem?_eq_none (by omega)]
theorem Zg.put {w0:World} {r:Za×Int} {e:Ending} {w' X:World} {g:Nat} {arr:Array Value} {T:TypeId} (h:Zg w0 r e w') (ho:Z5 w' g (.cells #[.slice none 0 0,.slice none 0 0,.slice none 0 0,.slice none 0 0,.slice none 0 0] T)) (hk:ZZ (fun k=>k=g) w' X) (hz:X.heap.size=w'.heap.size) {w1:World} (hb:Below w1.heap.size w1 w0) (hg:w1.heap.size<=g):Zg w1 r e X:=by
 have aa:Below w1.heap.size w1 w':=by
  obtain⟨_,_,_,_,_,_,_,_,_,_,_,_,_,_,_,_,h9⟩:=h;exact hb.trans (h9.mono hb.size)
 refine h.store hb.size (RF ho) (fun k af=>?_) hz (aa.trans (hk.below aa.size (fun k e=>by rw[e];exact hg)));by_cases ae:k<w'.heap.size
 ·exact hk.block k ae af
 rw[Array.getElem?_eq_none (by omega),Array.getElem?_eq_none (by omega)]
theorem zHd {W:World} {g:Nat} {T:TypeId} {x0 x1 x2 x3 x4 x5 x6 x7 x8 x9 x10 x11 x12 x13 x14 x15 x16 x17 x18 x19:Value} (h:Z5 W g (.cells #[x0,x1,x2,x3,x4,x5,x6,x7,x8,x9,x10,x11,x12,x13,x14,x15,x16,x17,x18,x19] T)) :
  W.cell? ⟨g,0,none⟩=some x0/\W.cell? ⟨g,1,none⟩=some x1/\W.cell? ⟨g,2,none⟩=some x2/\W.cell? ⟨g,3,none⟩=some x3/\W.cell? ⟨g,4,none⟩=some x4/\W.cell? ⟨g,5,none⟩=some x5/\W.cell? ⟨g,6,none⟩=some x6/\W.cell? ⟨g,7,none⟩=some x7/\W.cell? ⟨g,8,none⟩=some x8/\W.cell? ⟨g,9,none⟩=some x9/\W.cell? ⟨g,10,none⟩=some x10/\W.cell? ⟨g,11,none⟩=some x11/\W.cell? ⟨g,12,none⟩=some x12/\W.cell? ⟨g,13,none⟩=some x13/\W.cell? ⟨g,14,none⟩=some x14/\W.cell? ⟨g,15,none⟩=some x15/\W.cell? ⟨g,16,none⟩=some x16/\W.cell? ⟨g,17,none⟩=some x17/\W.cell? ⟨g,18,none⟩=some x18/\W.cell? ⟨g,19,none⟩=some x19 :=
 ⟨h.cell 0,h.cell 1,h.cell 2,h.cell 3,h.cell 4,h.cell 5,h.cell 6,h.cell 7,h.cell 8,h.cell 9,h.cell 10,h.cell 11,h.cell 12,h.cell 13,h.cell 14,h.cell 15,h.cell 16,h.cell 17,h.cell 18,h.cell 19⟩
theorem zJ6 {F F':Nat->Prop} {X W':World} {T:TypeId} (is:List Int) (aa:∀i∈is,Z4 i) (hl:is.length<=maxLen) (hF:∀k,F k->k<X.heap.size) (hs:Ym F F' (X.alloc (.cells (is.map (.int .i64 ·)).toArray T)).drew W'):Z0 W' (NF F' W') is (.slice (some ⟨X.heap.size,0,none⟩) is.length is.length) :=
 Rz (T:=T) is aa hl hF ⟨⟨hs.kept.os,hs.kept.tape,hs.kept.output,hs.kept.size,hs.kept.block⟩,hs.new⟩
theorem zB6 {ops:Array Oper} {S:World->Prop} {o:Oper} {a:Act} (ty:TypeId) (x:Operand) (ho:o.op=.load ty x) (hw:Region.wanted o (yielded ops a.tmps)=true) (g:Nat) (hx:a.eval x=.pointer (some ⟨g,0,none⟩)) {t:TypeId} {cs:Array Value} (hg:∀w,S w->Z5 w g (.cells cs t)) {fs} (hu:Tryz.prog.underlying ty=some (.struct fs)) (hi:(Tryz.prog.info? ty).map (·.size)=some cs.size):YieldsIf Tryz.prog ops S o (.agg cs) a :=
 Or.inl ⟨hw,fun w hS=>by
  unfold execOp;simp only[ho,hx,Instr.loadAt,Instr.sureAddr,Sem.run_bind,Sem.run_pure,Result.andThen_ok,run_loadVar_row w g t ty cs (0,0) (.struct fs) (hg w hS) hu rfl hi]⟩
instance (g:Nat) (cs:Array Value) (W X:World) [h:UZ g W X]:UZ g W (X.setRow g cs):=⟨h.k.trans' (ZZ.setRow X g cs)⟩
def Q5 (wk:World) (g:Nat) (cs:Array Value) (T:TypeId) (X:World):Prop:=ZZ (fun k=>k=g) wk X/\Z5 X g (.cells cs T)/\X.heap.size=wk.heap.size
theorem Wv {K:Act->World->Prop} {a:Act} {wk:World} {g:Nat} {cs ds:Array Value} {T:TypeId} (h:Z5 wk g (.cells ds T)) (hk:∀X,Hid (Q5 wk g cs T X)->K a X):K a (wk.setRow g cs):=hk _ ⟨ZZ.setRow _ _ _,h.row _,size_setRow _ _ _⟩
theorem UQ {w X:World} (er:Int) (hb:Below w.heap.size w X):Zv w (Zo,er) (.returned (.tuple #[.agg #[.slice none 0 0,.slice none 0 0,.slice none 0 0,.slice none 0 0,.slice none 0 0],.int .i64 er])) X :=
 ⟨none,0,none,0,none,0,none,0,none,0,rfl,Z8.nil_ 0 (QU _) none,Z8.nil_ 0 (QU _) none,Z8.nil_ 0 (QU _) none,Z8.nil_ 0 (QU _) none,Z8.nil_ 0 (QU _) none,hb⟩
theorem Uy {w X:World} (er:Int) (hb:Below w.heap.size w X):Zg w (Zo,er) (.returned (.tuple #[.agg #[.slice none 0 0,.slice none 0 0,.slice none 0 0,.slice none 0 0,.slice none 0 0],.int .i64 er])) X :=
 ⟨none,0,none,0,none,0,none,0,none,0,rfl,Z8.nil_ 0 (QU _) none,Z8.nil_ 0 (QU _) none,Z8.nil_ 0 (QU _) none,Z8.nil_ 0 (QU _) none,Z8.nil_ 0 (QU _) none,hb⟩
theorem YS {x:Int} (h:-1000000<=x/\x<=1000000):Z4 x:=by unfold Z4;omega
theorem RN {t:Z9} {p:List Int} {d:Int} (hv:ZN t=true):(RJ t p d).1.length<=24:=by
 have aa:∀i,(atL (Zh [] t) i).1.length<=24:=fun i=>by
  unfold atL;split
  ·split
   ·rename_i q hq;have h1:=zKj.1 (List.mem_of_getElem? hq);have h2:=(zKd t q h1).1;have h3:=(X0 hv).2.2.2;simp only;omega
   simp
  simp
 unfold RJ zKy;rw[hv,if_pos rfl];split
 ·split
  ·exact aa _
  simp
 simp
theorem zH5 {t:Z9} (hv:ZN t=true) (r:List Int) (a b:Int):ZT (Yp t r a b).1<=1000:=by
 unfold Yp;split
 ·simp[ZT]
 split
 ·simp[ZT]
 rename_i h _;simp only;have h1:=zD4 ((ZR t r).1.kids.take b.toNat) a.toNat;have h2:=Xy (ZR t r).1.kids b.toNat;have h3:ZT (ZR t r).1.kids<=1000:=by
  unfold ZR at h ⊢;split
  ·simp[ZJ,Z9.kids,ZT]
  split
  ·simp[ZJ,Z9.kids,ZT]
  have:=Vq t r;have h4:=XG (ZM t r).1;have:=(X0 hv).1;simp only;omega
 omega
theorem RI {w:World} {d:Sz} (h:Tt w d):ZN d.t=true/\d.its.length<=1000/\ZT d.its<=1000/\0<=d.o/\d.o<=d.its.length/\d.q.length<=90000/\ZA d.t d.p=true/\(d.ar=true->0<=d.i/\d.i<=1000/\d.q2.length<=90000)/\d.rr.length<=90000/\0<=d.ra/\d.ra<=d.rb/\d.rb<=1000:=by
 have h1:=h.of;obtain⟨hv,hp,_,f1,f2,f3,f4⟩:=VM (t:=d.t) (p:=d.p) (m:=d.m) (by rw[h1]);rw[h1] at f1 f2 f3 f4;simp only at f1 f2 f3 f4;have af:=h.pe;have ae:=hp;rw[af] at ae;obtain⟨g1,g2,g3⟩:=TE ae;have e:d.its=(ZM d.t d.q).1.kids:=by rw[h.ie,TF hv g1]
 rw[<-e] at g3;have hc:=Vq d.t d.q;have hvc:=(X0 hv).1;have hk:=XG (ZM d.t d.q).1;rw[<-e] at hk;have hl:=Yz (ZM d.t d.q).1;rw[<-e] at hl;have aa:=h.pl;rw[af] at aa;simp at aa;have hcr:=Vq d.t d.rr;have hlr:=Yz (ZM d.t d.rr).1;have ag:d.rr.length<=90000:=by
  have h2:=h.of;unfold ZI at h2;have hm:=h.ml;have ah:=h.pl;split at h2<;>unfold Xc at h2<;>split at h2
  ·simp at h2
  ·split at h2
   ·simp at h2
   have:=congrArg (fun x=>x.1.1.length) h2;simp[YC] at this;omega
  ·simp at h2
  split at h2
  ·simp at h2
  have:=congrArg (fun x=>x.1.1.length) h2;simp[YC] at this;omega
 refine⟨hv,by omega,by omega,g2,g3,by omega,hp,fun ha=>?_,ag,f2,f3,by omega⟩;obtain⟨_,_,_,hq,_⟩:=h.ar1 ha;rw[hq] at ae aa;obtain⟨_,k1,_⟩:=Tc ae;have h5:=Vq d.t d.q2;have h6:=Yz (ZM d.t d.q2).1;simp at aa;exact⟨k1.1,by omega,by omega⟩
theorem zPi {w:World} {d:Sz} (h:Tt w d) {W:World} {B:Nat} {ops:List ZB} {pos am:List Int} (hW:Below w.heap.size w W) {w0:World} (hb:BA w0 W B (UB d) ops pos am) (aa:ops.length<=1000):Calls Tryz.prog 48 #[.pointer (some ⟨B,0,none⟩)] W (Zg w0 (XW d.t d.p d.m ops pos am)) :=
 zVj hb d.t d.p d.m d.A d.Ap d.Am d.cap d.cp d.cm rfl rfl rfl rfl rfl rfl (h.bl hW).tk h.tok h.tct (h.bl hW).p (h.bl hW).m (by have:=h.pl;omega) (by have:=h.ml;omega) aa
