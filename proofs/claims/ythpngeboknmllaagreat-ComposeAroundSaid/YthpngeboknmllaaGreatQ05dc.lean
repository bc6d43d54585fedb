/- T -/
import Derived.Test.YthpngeboknmllaaGreatQ15e7
import Derived.Laws.OwnMore
set_option linter.unusedVariables false
set_option linter.unusedSimpArgs false
set_option maxHeartbeats 4000000
set_option maxRecDepth 100000
namespace Go.Proofs.YthpngeboknmllaaGreat
open Go.RowKit
def NF (F:Nat->Prop) (W:World) (k:Nat):Prop:=k<W.heap.size/\¬F k
structure Ym (F F':Nat->Prop) (W W':World):Prop where
 kept:ZZ F W W'
 new:∀k,F' k->F k\/W.heap.size<=k
theorem Ym.of_bl {F:Nat->Prop} {W W':World} (h:Below W.heap.size W W'):Ym F F W W':=⟨ZZ.of_below h _,fun _ h=>.inl h⟩
theorem Ym.keep {α:Type} {E:YW α} {F F':Nat->Prop} {W W':World} {xs:List α} {v:Value} (h:Ym F F' W W') (hr:Z8 E W (NF F W) xs v):Z8 E W' (NF F' W') xs v :=
 hr.keep (fun q hq=>h.kept.cell hq.1 hq.2) (fun k hk=>⟨QV hk.1 h.kept.size,fun e=>(h.new k e).elim hk.2 (fun e=>absurd hk.1 (by omega))⟩)
theorem YZ {α:Type} {E:YW α} {F:Nat->Prop} {W W':World} {xs:List α} {v:Value} (h:Below W.heap.size W W') (hr:Z8 E W (NF F W) xs v):Z8 E W' (NF F W') xs v:=(Ym.of_bl h).keep hr
theorem Xf {α:Type} {E:YW α} {F:Nat->Prop} {W:World} {xs:List α} {v:Value} (hr:Z8 E W (NF F W) xs v):Z8 E W (Lt W.heap.size) xs v:=hr.keep (fun _ _=>rfl) (fun k hk=>hk.1)
theorem zPr (X:World) (is:List Int) (T:TypeId) (aa:∀i∈is,Z4 i) (hl:is.length<=maxLen):Z0 (X.alloc (.cells (is.map (.int .i64 ·)).toArray T)) (fun k=>k=X.heap.size) is (.slice (some ⟨X.heap.size,0,none⟩) is.length is.length):=by
 refine⟨_,_,is.map (.int .i64 ·),rfl,QT _,hl,fun _=>⟨X.heap.size,0,rfl,rfl,fun j u hu=>?_⟩,VD.2 ⟨rfl,aa⟩⟩;rw[Nat.zero_add,World.cell?_alloc_new];simpa using hu
theorem Rz {F F':Nat->Prop} {X W':World} {T:TypeId} (is:List Int) (aa:∀i∈is,Z4 i) (hl:is.length<=maxLen) (hF:∀k,F k->k<X.heap.size) (hs:Ym F F' (X.alloc (.cells (is.map (.int .i64 ·)).toArray T)) W'):Z0 W' (NF F' W') is (.slice (some ⟨X.heap.size,0,none⟩) is.length is.length) :=
 hs.keep ((zPr X is T aa hl).keep (fun _ _=>rfl) (fun k hk=>by subst hk;exact⟨by simp,fun e=>absurd (hF _ e) (Nat.lt_irrefl _)⟩))
theorem zNu (X:World) (is:List Int) (T:TypeId) (aa:∀i∈is,Z4 i) (hl:is.length<=maxLen):Z0 (X.alloc (.cells (is.map (.int .i64 ·)).toArray T)) (Lt (X.alloc (.cells (is.map (.int .i64 ·)).toArray T)).heap.size) is (.slice (some ⟨X.heap.size,0,none⟩) is.length is.length) :=
 (zPr X is T aa hl).keep (fun _ _=>rfl) (fun k hk=>by subst hk;unfold Lt;simp)
structure BS (w0 W:World) (F:Nat->Prop) (B:Nat) (x:Array Value) (ops:List ZB):Prop where
 below:Below w0.heap.size w0 W
 lo:∀k,F k->w0.heap.size<=k
 hi:∀k,F k->k<W.heap.size
 ex:∃arr b vo,Z5 W B (.cells arr 86)/\arr.size=25/\(∀j,j<6->arr[j]?=x[j]?)/\arr[20]?=some vo/\Y7 Zb 49 W b ops vo/\B<b/\b<=W.heap.size/\arr[23]?=some (.slice none 0 0)/\arr[24]?=some (.slice none 0 0)/\∀k,(k=B\/some k=vo.ownBlock)->F k
theorem BS.bl {w0 W W':World} {F:Nat->Prop} {B:Nat} {x:Array Value} {ops:List ZB} (h:BS w0 W F B x ops) (hb:Below W.heap.size W W'):BS w0 W' F B x ops:=by
 obtain⟨arr,b,vo,ho,h1,h2,h3,h4,h5,h6,h7,h8,h9⟩:=h.ex;exact⟨h.below.trans (hb.mono h.below.size),h.lo,fun k hk=>QV (h.hi k hk) hb.size,arr,b,vo,ho.below hb,h1,h2,h3,h4.below hb,h5,QP h6 hb.size,h7,h8,h9⟩
structure BA (w0 W:World) (B:Nat) (x:Array Value) (ops:List ZB) (ap am:List Int):Prop where
 below:Below w0.heap.size w0 W
 lo:w0.heap.size<=B
 ex:∃arr vo vap vam,Z5 W B (.cells arr 86)/\arr.size=25/\(∀j,j<6->arr[j]?=x[j]?)/\arr[20]?=some vo/\arr[23]?=some vap/\arr[24]?=some vam/\Z8 Zb W (fun k=>B<k/\k<W.heap.size) ops vo/\Z0 W (fun k=>B<k/\k<W.heap.size) ap vap/\Z0 W (fun k=>B<k/\k<W.heap.size) am vam
theorem zTh {α:Type} {E:YW α} {W W':World} {B:Nat} {xs:List α} {v:Value} (h:ZZ (fun k=>k=B) W W') (hr:Z8 E W (fun k=>B<k/\k<W.heap.size) xs v):Z8 E W' (fun k=>B<k/\k<W'.heap.size) xs v :=
 hr.keep (fun q hq=>h.cell hq.2 (Nat.ne_of_gt hq.1)) (fun k hk=>⟨hk.1,QV hk.2 h.size⟩)
theorem BA.bl {w0 W W':World} {B:Nat} {x:Array Value} {ops:List ZB} {ap am:List Int} (h:BA w0 W B x ops ap am) (hb:Below W.heap.size W W'):BA w0 W' B x ops ap am:=by
 obtain⟨arr,vo,vap,vam,ho,h1,h2,h3,h4,h5,h6,h7,h8⟩:=h.ex;exact⟨h.below.trans (hb.mono h.below.size),h.lo,arr,vo,vap,vam,ho.below hb,h1,h2,h3,h4,h5,zTh (ZZ.of_below hb _) h6,zTh (ZZ.of_below hb _) h7,zTh (ZZ.of_below hb _) h8⟩
theorem RU (x0 x1 x2 x3 x4 x5 x6 x7 x8 x9 av au ak aj ai ah ag af ae aa:Value) (w0 W:World) (hW:Below w0.heap.size w0 W) :
  Calls Tryz.prog 44 #[.agg #[x0,x1,x2,x3,x4,x5,x6,x7,x8,x9,av,au,ak,aj,ai,ah,ag,af,ae,aa]] W fun e w'=>∃B F,e=.returned (.pointer (some ⟨B,0,none⟩))/\BS w0 w' F B #[x0,x1,x2,x3,x4,x5,x6,x7,x8,x9,av,au,ak,aj,ai,ah,ag,af,ae,aa] []/\Ym (fun _=>False) F W w':=by
 refine(zQr x0 x1 x2 x3 x4 x5 x6 x7 x8 x9 av au ak aj ai ah ag af ae aa W).mono ?_;rintro e w' ⟨B,rfl,hB,ho,hb⟩;have hs:=hW.size;refine⟨B,fun k=>k=B,rfl,⟨hW.trans (hb.mono hs),by rintro k rfl;omega,by rintro k rfl;exact ho.lt,_,B+1,.slice none 0 0,ho,rfl,fun j hj=>?_,rfl,Y7.nil _ _,by omega,ho.lt,rfl,rfl,fun k hk=>?_⟩,ZZ.of_below hb _,fun k e=>.inr (e ▸ hB)⟩
 ·rcases j with _|_|_|_|_|_|j<;>first|rfl|omega
 rcases hk with hk|hk
 ·exact hk
 simp[Value.ownBlock] at hk
theorem TQ {w0 W:World} {F:Nat->Prop} {B:Nat} {x:Array Value} {ops:List ZB} (h:BS w0 W F B x ops) (op:ZB) (Ar An:Option Addr) (cr cn:Nat) (aA:ops.length<=1000)
  (hr:Z0 W (Lt W.heap.size) op.row (.slice Ar op.row.length cr)) (hn:Z8 Z7 W (Lt W.heap.size) op.nodes (.slice An op.nodes.length cn)) (ay:op.row.length<=1000000) (aB:ZT op.nodes<=1000000) (hk:Z4 op.kind) (ha:Z4 op.at_) (ag:Z4 op.n) (hs:Z4 op.slot) (az:op.old.size<=maxLen) (ax:op.text.size<=maxLen) :
  Calls Tryz.prog 45 #[.pointer (some ⟨B,0,none⟩),.agg (Zu op (.slice Ar op.row.length cr) (.slice An op.nodes.length cn))] W fun e w'=>∃F',e=.returned (.pointer (some ⟨B,0,none⟩))/\BS w0 w' F' B x (ops++[op])/\Ym F F' W w':=by
 obtain⟨arr,b,vo,ho,hz,h6,aG,ae,au,hb,aF,aD,hF⟩:=h.ex;refine(TN B b arr vo ops op Ar An cr cn W ho aG ae au hb aA hr hn ay aB hk ha ag hs az ax).mono ?_;rintro e w' ⟨ah,rfl,ai,aa,aj,af⟩;have ak:=aj.mono (fun k _ e=>hF k e);have av:=hF B (.inl rfl);have aC:=h.lo B av;refine⟨fun k=>k=B\/some k=ah.ownBlock,rfl,⟨h.below.trans (ak.below h.below.size h.lo),?_,?_,_,b,ah,ai,by simpa using hz,fun j hj=>?_,by rw[Array.getElem?_setIfInBounds_self_of_lt];omega,aa,au,QP hb aj.size,?_,?_,fun k e=>e⟩,ak,?_⟩
 ·rintro k (rfl|e)
  ·exact aC
  have:=(aa.own_lt k e.symm).1;omega
 ·rintro k (rfl|e)
  ·exact ai.lt
  exact(aa.own_lt k e.symm).2
 ·rw[Array.getElem?_setIfInBounds_ne (by omega)];exact h6 j hj
 ·rw[Array.getElem?_setIfInBounds_ne (by decide)];exact aF
 ·rw[Array.getElem?_setIfInBounds_ne (by decide)];exact aD
 rintro k (rfl|e)
 ·exact .inl av
 exact(af k e).imp (fun e=>hF k (.inr e)) id
theorem UI {w0 W:World} {F:Nat->Prop} {B:Nat} {x:Array Value} {ops:List ZB} (h:BS w0 W F B x ops) (p r:List Int) (Ap Ar:Option Addr) (cp cr:Nat) (hp:Z0 W (Lt W.heap.size) p (.slice Ap p.length cp)) (hr:Z0 W (Lt W.heap.size) r (.slice Ar r.length cr)) (hl:p.length+r.length<=100000) :
  Calls Tryz.prog 47 #[.pointer (some ⟨B,0,none⟩),.slice Ap p.length cp,.slice Ar r.length cr] W fun e w'=>e=.returned (.pointer (some ⟨B,0,none⟩))/\BA w0 w' B x ops (p++r) []:=by
 obtain⟨arr,b,vo,ho,hz,h6,aj,aa,ai,hb,h23,h24,hF⟩:=h.ex;refine(zVn B arr p r Ap Ar cp cr W ho hz hp hr hl).mono ?_;rintro e w' ⟨vp,rfl,ag,hv,af⟩;have ae:=h.lo B (hF B (.inl rfl));have ah:=ho.lt;refine⟨rfl,h.below.trans (af.below h.below.size (fun k e=>by rw[e];exact ae)),ae,_,vo,vp,.slice none 0 0,ag,by simpa using hz,fun j hj=>?_,?_,?_,?_,zTh af (aa.rows.keep (fun _ _=>rfl) (fun k hk=>⟨QV ai hk.1,hk.2⟩)),hv.keep (fun _ _=>rfl) (fun k hk=>⟨QV ah hk.1,hk.2⟩),Z8.nil_ 0 (QU _) none⟩
 ·rw[Array.getElem?_setIfInBounds_ne (by omega),Array.getElem?_setIfInBounds_ne (by omega)];exact h6 j hj
 ·rw[Array.getElem?_setIfInBounds_ne (by decide),Array.getElem?_setIfInBounds_ne (by decide)];exact aj
 ·rw[Array.getElem?_setIfInBounds_ne (by decide),Array.getElem?_setIfInBounds_self_of_lt (by omega)]
 rw[Array.getElem?_setIfInBounds_self_of_lt (by simp;omega)]
def Zv (w0:World) (r:Za×Int) (e:Ending) (w':World):Prop :=
 ∃Ao co Ap cp Am cm Aap cap Aam cam,e=.returned (.tuple #[.agg #[.slice Ao r.1.ops.length co,.slice Ap r.1.bp.length cp,.slice Am r.1.bm.length cm,.slice Aap r.1.ap.length cap,.slice Aam r.1.am.length cam],.int .i64 r.2])/\Z8 Zb w' (Lt w'.heap.size) r.1.ops (.slice Ao r.1.ops.length co)/\Z0 w' (Lt w'.heap.size) r.1.bp (.slice Ap r.1.bp.length cp)/\Z0 w' (Lt w'.heap.size) r.1.bm (.slice Am r.1.bm.length cm)/\Z0 w' (Lt w'.heap.size) r.1.ap (.slice Aap r.1.ap.length cap)/\Z0 w' (Lt w'.heap.size) r.1.am (.slice Aam r.1.am.length cam)/\Below w0.heap.size w0 w'
def Zg (w0:World) (r:Za×Int) (e:Ending) (w':World):Prop :=
 ∃Ao co Ap cp Am cm Aap cap Aam cam,e=.returned (.tuple #[.agg #[.slice Ao r.1.ops.length co,.slice Ap r.1.bp.length cp,.slice Am r.1.bm.length cm,.slice Aap r.1.ap.length cap,.slice Aam r.1.am.length cam],.int .i64 r.2])/\Z8 Zb w' (fun k=>w0.heap.size<=k/\k<w'.heap.size) r.1.ops (.slice Ao r.1.ops.length co)/\Z0 w' (fun k=>w0.heap.size<=k/\k<w'.heap.size) r.1.bp (.slice Ap r.1.bp.length cp)/\Z0 w' (fun k=>w0.heap.size<=k/\k<w'.heap.size) r.1.bm (.slice Am r.1.bm.length cm)/\Z0 w' (fun k=>w0.heap.size<=k/\k<w'.heap.size) r.1.ap (.slice Aap r.1.ap.length cap)/\Z0 w' (fun k=>w0.heap.size<=k/\k<w'.heap.size) r.1.am (.slice Aam r.1.am.length cam)/\Below w0.heap.size w0 w'
theorem Zg.weak {w0:World} {r:Za×Int} {e:Ending} {w':World} (h:Zg w0 r e w'):Zv w0 r e w':=by
 obtain⟨A1,c1,A2,c2,A3,c3,A4,c4,A5,c5,rfl,r1,r2,r3,r4,r5,hb⟩:=h;have ki:∀{xs:List Int} {v:Value},Z0 w' (fun k=>w0.heap.size<=k/\k<w'.heap.size) xs v->Z0 w' (Lt w'.heap.size) xs v:=fun h=>h.keep (fun _ _=>rfl) (fun k hk=>hk.2)
 exact⟨A1,c1,A2,c2,A3,c3,A4,c4,A5,c5,rfl,r1.keep (fun _ _=>rfl) (fun k hk=>hk.2),ki r2,ki r3,ki r4,ki r5,hb⟩
theorem zVj {w0 W:World} {B:Nat} {x:Array Value} {ops:List ZB} {ap am:List Int} (h:BA w0 W B x ops ap am) (t:Z9) (p m:List Int) (A Ap Am:Option Addr) (cap cp cm:Nat)
  (h0:x[0]?=some (.int .i64 t.kind)) (h1:x[1]?=some (.string t.text)) (h2:x[2]?=some (.int .i64 t.cols)) (h3:x[3]?=some (.slice A t.kids.length cap)) (h4:x[4]?=some (.slice Ap p.length cp)) (h5:x[5]?=some (.slice Am m.length cm))
  (hv:Z8 Z7 W (Lt W.heap.size) t.kids (.slice A t.kids.length cap)) (ag:Zt t) (aj:ZW t<=900000) (hp:Z0 W (Lt W.heap.size) p (.slice Ap p.length cp)) (hm:Z0 W (Lt W.heap.size) m (.slice Am m.length cm)) (ae:p.length<=1000000) (ah:m.length<=1000000) (af:ops.length<=1000) :
  Calls Tryz.prog 48 #[.pointer (some ⟨B,0,none⟩)] W (Zg w0 (XW t p m ops ap am)):=by
 obtain⟨arr,vo,vap,vam,ho,hz,h6,ay,ax,av,aa,ak,au⟩:=h.ex;obtain⟨Ao,co,rfl⟩:=aa.form;refine(Vj B arr t p m ap am ops A Ap Am Ao cap cp cm co vap vam W ho hz ((h6 0 (by decide)).trans h0) ((h6 1 (by decide)).trans h1) ((h6 2 (by decide)).trans h2) ((h6 3 (by decide)).trans h3) ((h6 4 (by decide)).trans h4) ((h6 5 (by decide)).trans h5) ay ax av hv ag aj hp hm ae ah aa af ak au).mono ?_;rintro e w' ⟨vo,vbp,vbm,vap,vam,rfl,r1,r2,r3,r4,r5,hk⟩;obtain⟨A1,c1,rfl⟩:=r1.form;obtain⟨A2,c2,rfl⟩:=r2.form;obtain⟨A3,c3,rfl⟩:=r3.form;obtain⟨A4,c4,rfl⟩:=r4.form;obtain⟨A5,c5,rfl⟩:=r5.form;have ai:=h.lo;have kn:∀{α:Type} {E:YW α} {xs:List α} {v:Value},Z8 E w' (fun k=>B<k/\k<w'.heap.size) xs v->Z8 E w' (fun k=>w0.heap.size<=k/\k<w'.heap.size) xs v:=fun h=>h.keep (fun _ _=>rfl) (fun k hk=>⟨QP ai (Nat.le_of_lt hk.1),hk.2⟩)
 exact⟨A1,c1,A2,c2,A3,c3,A4,c4,A5,c5,rfl,kn r1,kn r2,kn r3,kn r4,kn r5,h.below.trans (hk.below h.below.size (fun k e=>by rw[e];exact h.lo))⟩
theorem Zv.store {w0:World} {r:Za×Int} {e:Ending} {w' w2:World} {g:Nat} (h:Zv w0 r e w') (hs:SlB w' g) (hk:∀k,k≠g->w2.heap[k]?=w'.heap[k]?) (hz:w2.heap.size=w'.heap.size) (hb:Below w0.heap.size w0 w2):Zv w0 r e w2:=by
 obtain⟨A1,c1,A2,c2,A3,c3,A4,c4,A5,c5,rfl,r1,r2,r3,r4,r5,_⟩:=h;have ki:∀{xs:List Int} {v:Value},Z0 w' (Lt w'.heap.size) xs v->Z0 w2 (Lt w2.heap.size) xs v:=fun h=>(zM1 hs h).keep (fun q hq=>World.cell?_of_block (hk _ hq.2)) (fun k hk=>by unfold Lt;rw[hz];exact hk.1)
 exact⟨A1,c1,A2,c2,A3,c3,A4,c4,A5,c5,rfl,(ops_av hs r1).keep (fun q hq=>World.cell?_of_block (hk _ hq.2)) (fun k hk=>by unfold Lt;rw[hz];exact hk.1),ki r2,ki r3,ki r4,ki r5,hb⟩
theorem Zg.store {w0:World} {r:Za×Int} {e:Ending} {w' w2:World} {g:Nat} (h:Zg w0 r e w') {w1:World} (aa:w1.heap.size<=w0.heap.size) (hs:SlB w' g) (hk:∀k,k≠g->w2.heap[k]?=w'.heap[k]?) (hz:w2.heap.size=w'.heap.size) (hb:Below w1.heap.size w1 w2):Zg w1 r e w2:=by
 obtain⟨A1,c1,A2,c2,A3,c3,A4,c4,A5,c5,rfl,r1,r2,r3,r4,r5,_⟩:=h;have ki:∀{xs:List Int} {v:Value},Z0 w' (fun k=>w0.heap.size<=k/\k<w'.heap.size) xs v->Z0 w2 (fun k=>w1.heap.size<=k/\k<w2.heap.size) xs v:=fun h=>(zM1 hs h).keep (fun q hq=>World.cell?_of_block (hk _ hq.2)) (fun k hk=>⟨QP aa hk.1.1,by rw[hz];exact hk.1.2⟩)
 exact⟨A1,c1,A2,c2,A3,c3,A4,c4,A5,c5,rfl,(ops_av hs r1).keep (fun q hq=>World.cell?_of_block (hk _ hq.2)) (fun k hk=>⟨QP aa hk.1.1,by rw[hz];exact hk.1.2⟩),ki r2,ki r3,ki r4,ki r5,hb⟩
theorem zOl (op:ZB) (Ar An az av:Option Addr) (cr cn ax au:Nat) (w:World) (hr:Z0 w (Lt w.heap.size) op.row (.slice Ar op.row.length cr)) (hn:Z8 Z7 w (Lt w.heap.size) op.nodes (.slice An op.nodes.length cn)) (aD:Z0 w (Lt w.heap.size) op.row (.slice az op.row.length ax)) (aF:Z8 Z7 w (Lt w.heap.size) op.nodes (.slice av op.nodes.length au)) :
  Calls Tryz.prog 59 #[.agg (Zu op (.slice Ar op.row.length cr) (.slice An op.nodes.length cn)),.agg (Zu op (.slice az op.row.length ax) (.slice av op.nodes.length au))] w fun e w'=>e=.returned (.bool true)/\Below w.heap.size w w':=by
 obtain⟨W0,aB⟩:∃W0,(w.alloc (.cells (Zu op (.slice Ar op.row.length cr) (.slice An op.nodes.length cn)) 49)).alloc (.cells (Zu op (.slice az op.row.length ax) (.slice av op.nodes.length au)) 49)=W0:=⟨_,rfl⟩;have ae:Below w.heap.size w W0:=by rw[<-aB];exact Zq (ZX _ _) _
 have af:Z5 W0 w.heap.size (.cells (Zu op (.slice Ar op.row.length cr) (.slice An op.nodes.length cn)) 49):=by rw[<-aB];exact(Z5.at0 _ _).al _
 have aa:Z5 W0 (w.heap.size+1) (.cells (Zu op (.slice az op.row.length ax) (.slice av op.nodes.length au)) 49):=by rw[<-aB];exact Z5.at1 _ _ _
 have aI:=aa.lt;have CS:Hid (∀n,Calls Tryz.prog 33 #[.slice An op.nodes.length cn,.slice av op.nodes.length au] (W0.drewN n) fun e w'=>e=.returned (.bool true)/\Below (W0.drewN n).heap.size (W0.drewN n) w'):=fun n=>by
  have h:=zNr op.nodes op.nodes (W0.drewN n) _ _ ((hn.below ae ae.size).keep (fun _ _=>rfl) (fun _ h=>h)) ((aF.below ae ae.size).keep (fun _ _=>rfl) (fun _ h=>h));rwa[show (op.nodes.length==op.nodes.length&&Zr op.nodes op.nodes)=true by rw[beq_self_eq_true,((zKm op.nodes op.nodes).2 rfl).2];rfl] at h
 have HR:=hid (QS (hr.below ae ae.size) (aD.below ae ae.size));have aK:=hid ae;obtain⟨_,_,rs,hq,aA,ai,aC,aG⟩:=HR.out.1;cases hq;obtain⟨_,_,rs',hq,ak,ag,ah,aj⟩:=HR.out.2;cases hq;have ay:=hid (QS (QS aC aG) (QS ah aj));unfold maxLen at ai ag;have l0:op.row.length<=9223372036854775807:=by omega
 obtain⟨kind,row,at_,n,nodes,slot,old,text⟩:=op;simp only[Zu] at *;have m0:=af.cell 0;have m1:=af.cell 1;have m2:=af.cell 2;have m3:=af.cell 3;have m4:=af.cell 4;have m5:=af.cell 5;have m6:=af.cell 6;have m7:=af.cell 7;have n0:=aa.cell 0;have n1:=aa.cell 1;have n2:=aa.cell 2;have n3:=aa.cell 3;have n4:=aa.cell 4;have n5:=aa.cell 5;have n6:=aa.cell 6;have n7:=aa.cell 7;simp only[List.getElem?_toArray,List.getElem?_cons_zero,List.getElem?_cons_succ] at m0 m1 m2 m3 m4 m5 m6 m7 n0 n1 n2 n3 n4 n5 n6 n7;clear hr hn aD aF af aa ae aC aG ah aj aA ai ak ag HR aI;go_enter Tryz.func59,Tryz.ntmps59
 go_wp2_with fail
 go_loopw [5] (fun i wr=>(∃n,wr=W0.drewN n)/\∃(k:Nat),k<=row.length/\i=.int .i64 k) (fun i _=>row.length-(intOf i).toNat)
 case atStart=>exact⟨⟨0,rfl⟩,0,QU _,rfl⟩
 obtain⟨⟨n,rfl⟩,k,hk,rfl⟩:=hrel;by_cases hx:k<row.length
 ·obtain⟨g,o,rfl,hg,hi,c0⟩:=YG ay.out.1.1 ay.out.1.2 hx;obtain⟨g',o',rfl,hg',hi',c0'⟩:=YG ay.out.2.1 ay.out.2.2 hx;have i1:(k:Int)<(row.length:Int):=by omega
  have i2:decide ((k:Int)<(row.length:Int))=true:=by rw[decide_eq_true_eq];omega
  have i3:(row[k] != row[k])=false:=by simp
  go_wp2_with fail
  go_quiet (fail)
  go_wp2_with fail
  go_roundw
  case rel=>exact⟨by first|exact⟨_,rfl⟩|(simp only[World.drewN_drewN];exact⟨_,rfl⟩),k+1,by omega,by go_num⟩
  case measure=>simp[intOf];omega
 have i2:decide ((k:Int)<(row.length:Int))=false:=by rw[decide_eq_false_iff_not];omega
 go_wp2_with fail
 refine(CS.out _).mono ?_;rintro e w2 ⟨rfl,aH⟩;have aJ:=hid (Zx (TM aK.out) aH);clear aH
 go_wp2_with fail
 go_ret;exact⟨rfl,aJ.out⟩
theorem zMl (ops:List ZB) (Ao aA:Option Addr) (co aC:Nat) (w:World) (ho:Z8 Zb w (Lt w.heap.size) ops (.slice Ao ops.length co)) (aB:Z8 Zb w (Lt w.heap.size) ops (.slice aA ops.length aC)) :
  Calls Tryz.prog 28 #[.slice Ao ops.length co,.slice aA ops.length aC] w fun e w'=>e=.returned (.bool true)/\Below w.heap.size w w':=by
 have H:=hid (QS ho aB);have hl0:ops.length<=9223372036854775807:=by
  obtain⟨_,_,_,hq,aP,ax,_,_⟩:=ho;cases hq;unfold maxLen at ax;omega
 have HW:Hid (∀W,Below w.heap.size w W->∀k (hk:k<ops.length),∃g o g' o' Ar An ai aj cr cn ag ah,Ao=some ⟨g,o,none⟩/\aA=some ⟨g',o',none⟩/\(W.cell? ⟨g,o+k*8,none⟩=some (.int .i64 ops[k].kind)/\W.cell? ⟨g,o+k*8+1,none⟩=some (.slice Ar ops[k].row.length cr)/\W.cell? ⟨g,o+k*8+2,none⟩=some (.int .i64 ops[k].at_) /\
   W.cell? ⟨g,o+k*8+3,none⟩=some (.int .i64 ops[k].n)/\W.cell? ⟨g,o+k*8+4,none⟩=some (.slice An ops[k].nodes.length cn)/\W.cell? ⟨g,o+k*8+5,none⟩=some (.int .i64 ops[k].slot) /\
   W.cell? ⟨g,o+k*8+6,none⟩=some (.string ops[k].old)/\W.cell? ⟨g,o+k*8+7,none⟩=some (.string ops[k].text))/\(W.cell? ⟨g',o'+k*8,none⟩=some (.int .i64 ops[k].kind)/\W.cell? ⟨g',o'+k*8+1,none⟩=some (.slice ai ops[k].row.length ag)/\W.cell? ⟨g',o'+k*8+2,none⟩=some (.int .i64 ops[k].at_) /\
   W.cell? ⟨g',o'+k*8+3,none⟩=some (.int .i64 ops[k].n)/\W.cell? ⟨g',o'+k*8+4,none⟩=some (.slice aj ops[k].nodes.length ah)/\W.cell? ⟨g',o'+k*8+5,none⟩=some (.int .i64 ops[k].slot) /\
   W.cell? ⟨g',o'+k*8+6,none⟩=some (.string ops[k].old)/\W.cell? ⟨g',o'+k*8+7,none⟩=some (.string ops[k].text)) /\
   Hid (∀W2,Below W.heap.size W W2->Calls Tryz.prog 59 #[.agg (Zu ops[k] (.slice Ar ops[k].row.length cr) (.slice An ops[k].nodes.length cn)),.agg (Zu ops[k] (.slice ai ops[k].row.length ag) (.slice aj ops[k].nodes.length ah))] W2 fun e w'=>e=.returned (.bool true)/\Below W2.heap.size W2 w')):=by
  intro W hW k hk;obtain⟨_,_,rso,hq,_,_,av,ay⟩:=H.out.1.below hW hW.size;cases hq;obtain⟨g,o,Ar,An,cr,cn,e,hg,p0,p1,p2,p3,p4,p5,p6,p7,hr,hn,h1,h2,_⟩:=Rq av ay hk;obtain⟨_,_,aD,hq,_,_,ak,au⟩:=H.out.2.below hW hW.size;cases hq;obtain⟨g',o',ai,aj,ag,ah,e',hg',aM,aL,aK,aJ,aI,aH,aG,aF,aN,aO,h1',h2',_⟩:=Rq ak au hk;exact⟨g,o,g',o',Ar,An,ai,aj,cr,cn,ag,ah,e,e',⟨p0,p1,p2,p3,p4,p5,p6,p7⟩,⟨aM,aL,aK,aJ,aI,aH,aG,aF⟩,fun W2 af=>zOl ops[k] Ar An ai aj cr cn ag ah W2 (hr.below af af.size) (hn.below af af.size) (aN.below af af.size) (aO.below af af.size)⟩
 clear ho aB H;go_enter Tryz.func28,Tryz.ntmps28
 go_wp2_with fail
 go_loopw [5] (fun i wr=>Below w.heap.size w wr/\∃(k:Nat),k<=ops.length/\i=.int .i64 k) (fun i _=>ops.length-(intOf i).toNat)
 case atStart=>exact⟨QQ _ _,0,QU _,rfl⟩
 obtain⟨hb,k,hk,rfl⟩:=hrel;by_cases hx:k<ops.length
 ·obtain⟨g,o,g',o',Ar,An,ai,aj,cr,cn,ag,ah,rfl,rfl,⟨p0,p1,p2,p3,p4,p5,p6,p7⟩,⟨q0,q1,q2,q3,q4,q5,q6,q7⟩,CS⟩:=HW.out wr hb k hx;have HB:=hid hb;have i0:(0:Int)<=(k:Int):=by omega
  have i1:(k:Int)<(ops.length:Int):=by omega
  have i2:decide ((k:Int)<(ops.length:Int))=true:=by rw[decide_eq_true_eq];omega
  have ae:g<wr.heap.size:=World.block_lt_of_cell? wr _ p0;have aa:g'<wr.heap.size:=World.block_lt_of_cell? wr _ q0;have KO:Hid (∀W,Below wr.heap.size wr W->(W.cell? ⟨g,o+k*8,none⟩=some (.int .i64 ops[k].kind)/\W.cell? ⟨g,o+k*8+1,none⟩=some (.slice Ar ops[k].row.length cr)/\W.cell? ⟨g,o+k*8+2,none⟩=some (.int .i64 ops[k].at_)/\W.cell? ⟨g,o+k*8+3,none⟩=some (.int .i64 ops[k].n)/\W.cell? ⟨g,o+k*8+4,none⟩=some (.slice An ops[k].nodes.length cn)/\W.cell? ⟨g,o+k*8+5,none⟩=some (.int .i64 ops[k].slot)/\W.cell? ⟨g,o+k*8+6,none⟩=some (.string ops[k].old)/\W.cell? ⟨g,o+k*8+7,none⟩=some (.string ops[k].text))/\(W.cell? ⟨g',o'+k*8,none⟩=some (.int .i64 ops[k].kind)/\W.cell? ⟨g',o'+k*8+1,none⟩=some (.slice ai ops[k].row.length ag)/\W.cell? ⟨g',o'+k*8+2,none⟩=some (.int .i64 ops[k].at_)/\W.cell? ⟨g',o'+k*8+3,none⟩=some (.int .i64 ops[k].n)/\W.cell? ⟨g',o'+k*8+4,none⟩=some (.slice aj ops[k].nodes.length ah)/\W.cell? ⟨g',o'+k*8+5,none⟩=some (.int .i64 ops[k].slot)/\W.cell? ⟨g',o'+k*8+6,none⟩=some (.string ops[k].old)/\W.cell? ⟨g',o'+k*8+7,none⟩=some (.string ops[k].text))):=fun W hW=>⟨⟨(hW.cell (p:=⟨g,_,none⟩) ae).trans p0,(hW.cell (p:=⟨g,_,none⟩) ae).trans p1,(hW.cell (p:=⟨g,_,none⟩) ae).trans p2,(hW.cell (p:=⟨g,_,none⟩) ae).trans p3,(hW.cell (p:=⟨g,_,none⟩) ae).trans p4,(hW.cell (p:=⟨g,_,none⟩) ae).trans p5,(hW.cell (p:=⟨g,_,none⟩) ae).trans p6,(hW.cell (p:=⟨g,_,none⟩) ae).trans p7⟩,⟨(hW.cell (p:=⟨g',_,none⟩) aa).trans q0,(hW.cell (p:=⟨g',_,none⟩) aa).trans q1,(hW.cell (p:=⟨g',_,none⟩) aa).trans q2,(hW.cell (p:=⟨g',_,none⟩) aa).trans q3,(hW.cell (p:=⟨g',_,none⟩) aa).trans q4,(hW.cell (p:=⟨g',_,none⟩) aa).trans q5,(hW.cell (p:=⟨g',_,none⟩) aa).trans q6,(hW.cell (p:=⟨g',_,none⟩) aa).trans q7⟩⟩
  clear hb ae aa;generalize ops[k]=op at *;obtain⟨kind,row,at_,n,nodes,slot,old,text⟩:=op;simp only[Zu] at *
  go_wp2_with fail
  go_region_held3 (fun w'=>(w'.cell? ⟨g,o+k*8,none⟩=some (.int .i64 kind)/\w'.cell? ⟨g,o+k*8+1,none⟩=some (.slice Ar row.length cr)/\w'.cell? ⟨g,o+k*8+2,none⟩=some (.int .i64 at_)/\w'.cell? ⟨g,o+k*8+3,none⟩=some (.int .i64 n)/\w'.cell? ⟨g,o+k*8+4,none⟩=some (.slice An nodes.length cn)/\w'.cell? ⟨g,o+k*8+5,none⟩=some (.int .i64 slot)/\w'.cell? ⟨g,o+k*8+6,none⟩=some (.string old)/\w'.cell? ⟨g,o+k*8+7,none⟩=some (.string text)) /\
    (w'.cell? ⟨g',o'+k*8,none⟩=some (.int .i64 kind)/\w'.cell? ⟨g',o'+k*8+1,none⟩=some (.slice ai row.length ag)/\w'.cell? ⟨g',o'+k*8+2,none⟩=some (.int .i64 at_)/\w'.cell? ⟨g',o'+k*8+3,none⟩=some (.int .i64 n)/\w'.cell? ⟨g',o'+k*8+4,none⟩=some (.slice aj nodes.length ah)/\w'.cell? ⟨g',o'+k*8+5,none⟩=some (.int .i64 slot)/\w'.cell? ⟨g',o'+k*8+6,none⟩=some (.string old)/\w'.cell? ⟨g',o'+k*8+7,none⟩=some (.string text))) (first|go_keep|trivial) (first
   |(go_at_call 59;refine(CS.out _ (QQ _ _).drew).mono ?_;rintro e w3 ⟨rfl,az⟩;have aR:=hid (Zx HB.out (Xt az));have aQ:=hid (Xt az);clear az;obtain⟨⟨p0,p1,p2,p3,p4,p5,p6,p7⟩,⟨q0,q1,q2,q3,q4,q5,q6,q7⟩⟩:=KO.out w3 aQ.out)
   |fail)
  go_wp2_with fail
  go_roundw
  case rel=>exact⟨aR.out,k+1,by omega,by go_num⟩
  case measure=>simp[intOf];omega
 have i2:decide ((k:Int)<(ops.length:Int))=false:=by rw[decide_eq_false_iff_not];omega
 have HB:=hid hb;clear hb
 go_wp2_with fail
 go_ret;exact⟨rfl,HB.out⟩
theorem zHr (p m:List Int) (Ap Am ag ah:Option Addr) (cp cm ae af:Nat) (w:World) (hp:Z0 w (Lt w.heap.size) p (.slice Ap p.length cp)) (hm:Z0 w (Lt w.heap.size) m (.slice Am m.length cm)) (au:Z0 w (Lt w.heap.size) p (.slice ag p.length ae)) (av:Z0 w (Lt w.heap.size) m (.slice ah m.length af)) :
  Calls Tryz.prog 12 #[.agg #[.slice Ap p.length cp,.slice Am m.length cm],.agg #[.slice ag p.length ae,.slice ah m.length af]] w fun e w'=>e=.returned (.bool true)/\Below w.heap.size w w':=by
 obtain⟨W0,ak⟩:∃W0,(w.alloc (.cells #[.slice Ap p.length cp,.slice Am m.length cm] 27)).alloc (.cells #[.slice ag p.length ae,.slice ah m.length af] 27)=W0:=⟨_,rfl⟩;have aa:Below w.heap.size w W0:=by rw[<-ak];exact Zq (ZX _ _) _
 have aj:Z5 W0 w.heap.size (.cells #[.slice Ap p.length cp,.slice Am m.length cm] 27):=by rw[<-ak];exact(Z5.at0 _ _).al _
 have ai:Z5 W0 (w.heap.size+1) (.cells #[.slice ag p.length ae,.slice ah m.length af] 27):=by rw[<-ak];exact Z5.at1 _ _ _
 have C1:Hid (Calls Tryz.prog 18 #[.slice Ap p.length cp,.slice ag p.length ae] W0 fun e w'=>e=.returned (.bool true)/\∃n,w'=W0.drewN n):=by
  have h:=zPl p p W0 _ _ _ _ (hp.below aa aa.size) (au.below aa aa.size);rwa[show decide (ZP p p=0)=true by rw[decide_eq_true_eq,zE8]] at h
 have C2:Hid (∀n,Calls Tryz.prog 18 #[.slice Am m.length cm,.slice ah m.length af] (W0.drewN n) fun e w'=>e=.returned (.bool true)/\∃k,w'=(W0.drewN n).drewN k):=fun n=>by
  have h:=zPl m m (W0.drewN n) _ _ (Lt W0.heap.size) (Lt W0.heap.size) ((hm.below aa aa.size).keep (fun _ _=>rfl) (fun _ h=>h)) ((av.below aa aa.size).keep (fun _ _=>rfl) (fun _ h=>h));rwa[show decide (ZP m m=0)=true by rw[decide_eq_true_eq,zE8]] at h
 have ax:=hid aa;have m0:=aj.cell 0;have m1:=aj.cell 1;have n0:=ai.cell 0;have n1:=ai.cell 1;simp only[List.getElem?_toArray,List.getElem?_cons_zero,List.getElem?_cons_succ] at m0 m1 n0 n1;clear hp hm au av aa aj ai;go_enter Tryz.func12,Tryz.ntmps12
 go_wp2_with fail
 refine C1.out.mono ?_;rintro e w1 ⟨rfl,n,rfl⟩
 go_wp2_with fail
 refine(C2.out _).mono ?_;rintro e w2 ⟨rfl,n2,rfl⟩
 go_wp2_with fail
 go_ret;exact⟨rfl,by first|exact TM (TM ax.out)|exact TM ax.out⟩
theorem zOk (r:Za) (Ao Ap Am Aq An:Option Addr) (co cp cm cq cn:Nat) (av ai ak ah aj:Option Addr) (au ae ag aa af:Nat) (w:World)
  (h0:Z8 Zb w (Lt w.heap.size) r.ops (.slice Ao r.ops.length co)) (h1:Z0 w (Lt w.heap.size) r.bp (.slice Ap r.bp.length cp)) (h2:Z0 w (Lt w.heap.size) r.bm (.slice Am r.bm.length cm)) (h3:Z0 w (Lt w.heap.size) r.ap (.slice Aq r.ap.length cq)) (h4:Z0 w (Lt w.heap.size) r.am (.slice An r.am.length cn))
  (k0:Z8 Zb w (Lt w.heap.size) r.ops (.slice av r.ops.length au)) (k1:Z0 w (Lt w.heap.size) r.bp (.slice ai r.bp.length ae)) (k2:Z0 w (Lt w.heap.size) r.bm (.slice ak r.bm.length ag)) (k3:Z0 w (Lt w.heap.size) r.ap (.slice ah r.ap.length aa)) (k4:Z0 w (Lt w.heap.size) r.am (.slice aj r.am.length af)) :
  Calls Tryz.prog 9 #[.agg #[.slice Ao r.ops.length co,.slice Ap r.bp.length cp,.slice Am r.bm.length cm,.slice Aq r.ap.length cq,.slice An r.am.length cn],.agg #[.slice av r.ops.length au,.slice ai r.bp.length ae,.slice ak r.bm.length ag,.slice ah r.ap.length aa,.slice aj r.am.length af]] w fun e w'=>e=.returned (.bool true)/\Below w.heap.size w w':=by
 obtain⟨ops,bp,bm,ap,am⟩:=r;simp only at *;obtain⟨W0,az⟩:∃W0,(w.alloc (.cells #[.slice Ao ops.length co,.slice Ap bp.length cp,.slice Am bm.length cm,.slice Aq ap.length cq,.slice An am.length cn] 35)).alloc (.cells #[.slice av ops.length au,.slice ai bp.length ae,.slice ak bm.length ag,.slice ah ap.length aa,.slice aj am.length af] 35)=W0:=⟨_,rfl⟩;have ay:Below w.heap.size w W0:=by rw[<-az];exact Zq (ZX _ _) _
 have aB:Z5 W0 w.heap.size (.cells #[.slice Ao ops.length co,.slice Ap bp.length cp,.slice Am bm.length cm,.slice Aq ap.length cq,.slice An am.length cn] 35):=by rw[<-az];exact(Z5.at0 _ _).al _
 have aA:Z5 W0 (w.heap.size+1) (.cells #[.slice av ops.length au,.slice ai bp.length ae,.slice ak bm.length ag,.slice ah ap.length aa,.slice aj am.length af] 35):=by rw[<-az];exact Z5.at1 _ _ _
 have C0:Hid (∀W,Below w.heap.size w W->Calls Tryz.prog 28 #[.slice Ao ops.length co,.slice av ops.length au] W fun e w'=>e=.returned (.bool true)/\Below W.heap.size W w'):=fun W hW=>zMl ops Ao av co au W (h0.below hW hW.size) (k0.below hW hW.size)
 have C1:Hid (∀W,Below w.heap.size w W->Calls Tryz.prog 12 #[.agg #[.slice Ap bp.length cp,.slice Am bm.length cm],.agg #[.slice ai bp.length ae,.slice ak bm.length ag]] W fun e w'=>e=.returned (.bool true)/\Below W.heap.size W w'):=fun W hW=>zHr bp bm Ap Am ai ak cp cm ae ag W (h1.below hW hW.size) (h2.below hW hW.size) (k1.below hW hW.size) (k2.below hW hW.size)
 have C2:Hid (∀W,Below w.heap.size w W->Calls Tryz.prog 12 #[.agg #[.slice Aq ap.length cq,.slice An am.length cn],.agg #[.slice ah ap.length aa,.slice aj am.length af]] W fun e w'=>e=.returned (.bool true)/\Below W.heap.size W w'):=fun W hW=>zHr ap am Aq An ah aj cq cn aa af W (h3.below hW hW.size) (h4.below hW hW.size) (k3.below hW hW.size) (k4.below hW hW.size)
 have KB:Hid (∀W,Below W0.heap.size W0 W->(W.cell? ⟨w.heap.size,1,none⟩=some (.slice Ap bp.length cp)/\W.cell? ⟨w.heap.size,2,none⟩=some (.slice Am bm.length cm)/\W.cell? ⟨w.heap.size,3,none⟩=some (.slice Aq ap.length cq)/\W.cell? ⟨w.heap.size,4,none⟩=some (.slice An am.length cn))/\(W.cell? ⟨w.heap.size+1,1,none⟩=some (.slice ai bp.length ae)/\W.cell? ⟨w.heap.size+1,2,none⟩=some (.slice ak bm.length ag)/\W.cell? ⟨w.heap.size+1,3,none⟩=some (.slice ah ap.length aa)/\W.cell? ⟨w.heap.size+1,4,none⟩=some (.slice aj am.length af))/\Below w.heap.size w W):=fun W hW=>by
  have h1:=aB.below hW;have h2:=aA.below hW;exact⟨⟨h1.cell 1,h1.cell 2,h1.cell 3,h1.cell 4⟩,⟨h2.cell 1,h2.cell 2,h2.cell 3,h2.cell 4⟩,ay.trans (hW.mono ay.size)⟩
 have aG:=hid ay;have m0:=aB.cell 0;have n0:=aA.cell 0;simp only[List.getElem?_toArray,List.getElem?_cons_zero,List.getElem?_cons_succ] at m0 n0;clear h0 h1 h2 h3 h4 k0 k1 k2 k3 k4 ay aB aA;go_enter Tryz.func9,Tryz.ntmps9
 go_wp2_with fail
 refine(C0.out _ aG.out).mono ?_;rintro e w1 ⟨rfl,aC⟩;clear m0 n0 az;obtain⟨⟨m1,m2,m3,m4⟩,⟨n1,n2,n3,n4⟩,ax⟩:=KB.out w1 aC;have HT:=hid aC;have HK:=hid ax;clear aC ax
 go_wp2_with fail
 refine(C1.out _ HK.out).mono ?_;rintro e w2 ⟨rfl,aF⟩;have HT:=hid (Zx HT.out aF);clear aF m1 m2 m3 m4 n1 n2 n3 n4;obtain⟨⟨m1,m2,m3,m4⟩,⟨n1,n2,n3,n4⟩,ax⟩:=KB.out w2 HT.out;have HK:=hid ax;clear ax
 go_wp2_with fail
 refine(C2.out _ HK.out).mono ?_;rintro e w3 ⟨rfl,aD⟩;have HK:=hid (Zx HK.out aD);clear aD m1 m2 m3 m4 n1 n2 n3 n4
 go_wp2_with fail
 go_ret;exact⟨rfl,HK.out⟩
theorem zQg (k:Int) {a b:List Z9} (h:a.Sublist b):XX k b=true->XX k a=true/\ZT a<=ZT b/\YQ a<=YQ b:=by
 induction h with
 |slnil=>exact fun h=>⟨h,QT _,QT _⟩
 |
  cons x _ ih =>
  intro h;rw[Vu] at h;simp only[Bool.and_eq_true] at h;obtain⟨h1,h2,h3⟩:=ih h.2;exact⟨h1,by rw[ZT];omega,by rw[YQ];omega⟩
 |
  cons_cons x _ ih =>
  intro h;rw[Vu] at h;simp only[Bool.and_eq_true] at h;obtain⟨h1,h2,h3⟩:=ih h.2;refine⟨by rw[Vu];simp only[Bool.and_eq_true];exact⟨h.1,h1⟩,by rw[ZT,ZT];omega,by rw[YQ,YQ];omega⟩
theorem zPq {a b:List Z9} (h:a.Sublist b) (hf:Zd (Z6 b)=true):Zd (Z6 a)=true/\ZW (Z6 a)<=ZW (Z6 b)/\Y8 (Z6 a)<=Y8 (Z6 b):=by
 unfold Z6 at *;rw[Zd] at hf ⊢;simp only[Bool.and_eq_true] at hf ⊢;obtain⟨h1,h2,h3⟩:=zQg 1 h hf.2;have hl:=h.length_le;refine⟨⟨⟨hf.1.1,?_⟩,h1⟩,by rw[ZW,ZW];omega,by rw[Y8,Y8];omega⟩;have h4:=hf.1.2;simp[Zw] at h4 ⊢;omega
theorem zJn (k:Int):(ts:List Z9)->(i:Nat)->(x:Z9)->(hi:i<ts.length)->XX k ts=true->Zd x=true->(x.kind==1)=(ts[i].kind==1)->XX k (ts.set i x)=true
 |
  t::ts,0,x,_,h,hx,hk=>by
  simp only[List.getElem_cons_zero] at hk;rw[List.set_cons_zero,Vu,hk,hx];rw[Vu] at h;simp only[Bool.and_eq_true] at h ⊢;exact⟨⟨h.1.1,trivial⟩,h.2⟩
 |
  t::ts,i+1,x,hi,h,hx,hk=>by
  rw[List.set_cons_succ,Vu];rw[Vu] at h;simp only[Bool.and_eq_true] at h ⊢;exact⟨h.1,zJn k ts i x (by simpa using hi) h.2 hx (by simpa using hk)⟩
theorem zIg:(ts:List Z9)->(i:Nat)->(x:Z9)->(hi:i<ts.length)->Y8 x<=Y8 ts[i]->YQ (ts.set i x)<=YQ ts
 |t::ts,0,x,_,h=>by simp only[List.getElem_cons_zero,List.set_cons_zero,YQ] at *;omega
 |
  t::ts,i+1,x,hi,h=>by
  have:=zIg ts i x (by simpa using hi) (by simpa using h);simp only[List.set_cons_succ,YQ];omega
theorem zNw {t:Z9} {i:Nat} {x:Z9} (hi:i<t.kids.length) (hf:Zd t=true) (hx:Zd x=true) (hk:(x.kind==1)=(t.kids[i].kind==1)) (hc:ZW x<=ZW t.kids[i]) (hd:Y8 x<=Y8 t.kids[i]):Zd (Y0 t i x)=true/\ZW (Y0 t i x)<=ZW t/\Y8 (Y0 t i x)<=Y8 t:=by
 obtain⟨k,s,c,ts⟩:=t;simp only[Y0,Z9.kind,Z9.text,Z9.cols,Z9.kids] at *;rw[Zd] at hf ⊢;simp only[Bool.and_eq_true,List.length_set] at hf ⊢;have h1:=zFu ts i x hi;have h2:=zIg ts i x hi hd;exact⟨⟨hf.1,zJn k ts i x hi hf.2 hx hk⟩,by rw[ZW,ZW];omega,by rw[Y8,Y8];omega⟩
theorem zP0:(p:List Int)->(t:Z9)->(l:List Z9)->(ZM t p).2=true->Zd t=true->t.kind=1->Zd (Z6 l)=true->ZW (Z6 l)<=ZW (ZM t p).1->Y8 (Z6 l)<=Y8 (ZM t p).1->(ZV t p l).kind=1/\Zd (ZV t p l)=true/\ZW (ZV t p l)<=ZW t/\Y8 (ZV t p l)<=Y8 t
 |[],t,l,_,hf,hk,hl,hc,hd=>⟨rfl,hl,hc,hd⟩
 |[_],t,l,h,_,_,_,_,_=>by simp[ZM] at h
 |
  i::k::p,t,l,h,hf,hk,hl,hc,hd=>by
  obtain⟨hi,aa,he⟩:=Vr t i k p h;rw[he] at h hc hd;have f1:=Wo hf hi.2;rw[<-Yq hi.2,hk] at f1;have f2:=Wo f1.1 aa.2;rw[<-Yq aa.2,f1.2] at f2;obtain⟨g1,g2,g3,g4⟩:=zP0 p _ l h f2.1 (by have:=f2.2;simpa using this) hl hc hd;have e1:ZV t (i::k::p) l=Y0 t i.toNat (Y0 (ZY t i) k.toNat (ZV (ZY (ZY t i) k) p l)):=by rw[ZV]
  rw[e1];obtain⟨r1,r2,r3⟩:=zNw (t:=ZY t i) (i:=k.toNat) (x:=ZV (ZY (ZY t i) k) p l) aa.2 f1.1 g2 (by rw[<-Yq aa.2,f2.2,g1];rfl) (by rw[<-Yq aa.2];exact g3) (by rw[<-Yq aa.2];exact g4);obtain⟨q1,q2,q3⟩:=zNw (t:=t) (i:=i.toNat) (x:=Y0 (ZY t i) k.toNat (ZV (ZY (ZY t i) k) p l)) hi.2 hf r1 (by rw[<-Yq hi.2];rfl) (by rw[<-Yq hi.2];exact r2) (by rw[<-Yq hi.2];exact r3);exact⟨hk,q1,q2,q3⟩
theorem zJq:(p:List Int)->(t:Z9)->(ZM t p).2=true->Y8 (ZM t p).1<=Y8 t
 |[],t,_=>QT _
 |[_],t,h=>by simp[ZM] at h
 |
  i::k::p,t,h=>by
  obtain⟨hi,hk,he⟩:=Vr t i k p h;rw[he] at h ⊢;have h1:=zJq p _ h;have h2:=zFe hi.2;rw[<-Yq hi.2] at h2;have h3:=zFe hk.2;rw[<-Yq hk.2] at h3;omega
theorem Uu {t:Z9} {q:List Int} {its l:List Z9} (hv:ZN t=true) (hf:(ZM t q).2=true) (hi:its=(ZM t q).1.kids) (h:l.Sublist its):ZN (ZV t q l)=true:=by
 obtain⟨v1,v2,v3,v4⟩:=X0 hv;have hr:=Ri hv hf;have f:=(R8 q t hf v3 v2).1;rw[hr,<-hi] at f;obtain⟨s1,s2,s3⟩:=zPq h f;have e:Z6 its=(ZM t q).1:=by rw[hi,<-hr]
 rw[e] at s2 s3;obtain⟨g1,g2,g3,g4⟩:=zP0 q t l hf v3 v2 s1 s2 s3;unfold ZN;simp only[Bool.and_eq_true,decide_eq_true_eq,g1,g2];exact⟨⟨⟨rfl,trivial⟩,by omega⟩,by omega⟩
theorem zMz {t:Z9} {q:List Int} {its l:List Z9} (hv:ZN t=true) (hf:(ZM t q).2=true) (hi:its=(ZM t q).1.kids) (h:l.Sublist its):ZN (Z6 l)=true:=by
 obtain⟨v1,v2,v3,v4⟩:=X0 hv;have hr:=Ri hv hf;have f:=(R8 q t hf v3 v2).1;rw[hr,<-hi] at f;obtain⟨s1,s2,s3⟩:=zPq h f;have e:Z6 its=(ZM t q).1:=by rw[hi,<-hr]
 rw[e] at s2 s3;have:=Vq t q;have:=zJq q t hf;unfold ZN;simp only[Bool.and_eq_true,decide_eq_true_eq,s1];exact⟨⟨⟨rfl,trivial⟩,by omega⟩,by omega⟩
theorem zTp {t:Z9} {op:ZB} {l:List Z9} (hv:ZN t=true) (hf:(ZM t op.row).2=true) (ho:Yo op=true) (hc:ZC (ZM t op.row).1.kids op=(l,0)) (aa:ZN (ZV t op.row l)=true):Ze t op=(ZV t op.row l,0):=by
 unfold Ze;rw[TF hv hf];simp only[hc];rw[if_neg (by simp[hv]),if_neg (by simp[ho]),if_neg (by simp),if_neg (by simp),if_neg (by simp[aa])]
theorem Vk {t m:Z9} {p mk pos:List Int} {op:ZB} (hv:ZN t=true) (h:Ze t op=(m,0)):Wy t p mk [op] pos=(⟨[op],p,mk,pos,[]⟩,0)/\Xn t [op]=(m,0):=by
 have e:Xn t [op]=(m,0):=by
  unfold Xn WK;rw[if_neg (by simp[hv]),h,if_neg (by simp)];rfl
 refine⟨?_,e⟩;unfold Wy;rw[e,if_pos rfl]
theorem UE {its:List Z9} {a:Nat} (ha:a<its.length):[its[a]].Sublist its:=List.singleton_sublist.2 (List.getElem_mem ha)
theorem zOh (its:List Z9) (a:Nat):(Zk its a (a+1) []).Sublist its:=by
 unfold Zk;rw[List.append_nil];have h:=List.Sublist.append (List.Sublist.refl (its.take a)) (List.drop_sublist_drop_left its (Nat.le_succ a));rwa[List.take_append_drop] at h
theorem zLi:ZQ.toList.isEmpty=true:=by rw[show ZQ.toList=[] by unfold ZQ ByteArray.toList ByteArray.toList.loop;rfl];rfl
theorem zPf {t:Z9} {q:List Int} {its:List Z9} {a s:Nat} (hv:ZN t=true) (hf:(ZM t q).2=true) (hi:its=(ZM t q).1.kids) (ha:a<its.length) (hs:s<its[a].kids.length) (he:its[a].kids[s]=Z6 []):Ze t (Zf ⟨q,(a:Int),(s:Int),its[a]⟩)=(ZV t q (Zk its a (a+1) []),0):=by
 have hk:ZY its[a] (s:Int)=Z6 []:=by rw[Yq (by simpa using hs)];simpa using he
 have aa:Zp its[a] s []=its[a]:=by
  unfold Zp Y0;rw[<-he,List.set_getElem_self];cases its[a];rfl
 have ae:Zf ⟨q,(a:Int),(s:Int),its[a]⟩=⟨4,q,(a:Int),0,[its[a]],(s:Int),ZQ,ZQ⟩:=by
  unfold Zf;simp only[hk,Int.toNat_natCast,aa];rfl
 rw[ae];have h:=zTp (t:=t) (op:=⟨4,q,(a:Int),0,[its[a]],(s:Int),ZQ,ZQ⟩) (l:=Zk its a (a+1) []) hv hf ?_ ?_ (Uu hv hf hi (zOh its a))
 ·exact h
 ·unfold Yo Yf;rw[if_neg (by simp),if_pos (by simp)];simp only[Bool.and_eq_true,List.headD_cons];refine⟨by simp,⟨rfl,zMz hv hf hi (UE ha),decide_eq_true (show (0:Int)<=(s:Int) by omega),decide_eq_true (show (s:Int)<(its[a].kids.length:Int) by omega),decide_eq_true (show (ZY its[a] (s:Int)).kids.length=0 by rw[hk];rfl)⟩,zLi,zLi⟩
 show ZC (ZM t q).1.kids _=_;rw[<-hi];have hg:its.getD a ZJ=its[a]:=by rw[List.getD_eq_getElem?_getD,List.getElem?_eq_getElem ha];rfl
 unfold ZC YM;simp only[Int.toNat_natCast,hg,hk,List.headD_cons];rw[if_neg (by simp;omega),if_neg (by decide),if_neg (by decide),if_neg (by decide),if_pos (by trivial),if_neg ?_]
 ·rw[show ((a:Int)+1).toNat=a+1 by omega];rfl
 rintro (h|h|h)
 ·omega
 ·exact h rfl
 rw[show (Z6 ([]:List Z9)).kids=[] from rfl,aa,(R5 _ _).2 rfl] at h;cases h
theorem er_T (t:Z9) (q:List Int) (o:Int) (b:Bool) {its:List Z9} (hv:ZN t=true) (hf:(ZM t q).2=true) (hi:its=(ZM t q).1.kids):UK t (q++[o]) [] b =
  if 0<=(if b then o-1 else o)/\(if b then o-1 else o)<(its.length:Int) then
   (if XV (WA its (if b then o-1 else o).toNat).kids 0 (-1)=false then Wy t (q++[o]) [] [Yn q (if b then o-1 else o) [WA its (if b then o-1 else o).toNat]] (q++[if b then o-1 else o]) else UC t (q++[o]) [] b)
  else match Zz t (q++[o]) with
   |some x=>if XV x.item.kids 0 x.own=false then Wy t (q++[o]) [] [Zf x] (x.row++[if b then x.at_ else x.at_+(Zf x).n]) else UC t (q++[o]) [] b
   |none=>UC t (q++[o]) [] b:=by
 unfold UK;have e1:(q++[o]).dropLast=q:=by simp
 have e2:(q++[o]).getLastD 0=o:=by simp
 rw[e1,e2,TF hv hf];simp only[<-hi]<;>rfl
theorem VN {X:World} {o:Obj} {L:List Z9} {v:Value} (h:Z8 Z7 X (Lt X.heap.size) L v):Z8 Z7 (X.alloc o) (fun k=>k<(X.alloc o).heap.size/\some k≠(Value.slice (some ⟨X.heap.size,0,none⟩) 0 0).ownBlock) L v:=by
 refine h.keep (fun q hq=>(XP X o).cell hq) (fun k hk=>⟨?_,?_⟩)
 ·have:=(XP X o).size;exact QV hk this
 intro e;have e2:some k=some X.heap.size:=e;injection e2 with e2
 unfold Lt at hk;omega
theorem TJ {w:World} {ops:Array Oper} {rest:List Oper} {o:Oper} {a:Act} {Q:Exit->Act->World->Prop} (au:o.guard=none) (s x:Operand)
  (ho:o.op=.call { callee:=.builtin .append,args:=#[s,x],argTypes:=#[22,22] })
  (b:Nat) (v:Value) (yss:List Z9) (hs:a.eval s=v) (aa:w.ownsRow b 24 4 v 0 []) (A:Option Addr) (m c:Nat) (hx:a.eval x=.slice A m c) (hr:Z8 Z7 w (fun k=>k<w.heap.size/\some k≠v.ownBlock) yss (.slice A m c))
  (af:yss.length<=1000000000) (hb:b<=w.heap.size)
  (h:∀v' w',Z8 Z7 w' (Lt w'.heap.size) yss v'->Below b w w'->wpList Tryz.prog ops Q rest (a.put o.dst v') w'):wpList Tryz.prog ops Q (o::rest) a w:=by
 obtain⟨i0,ak,ai,ah,ag⟩:=zF5;obtain⟨A',cap',rs,e,h1,h2,aj,ae⟩:=hr;injection e with e1 e2 e3
 subst e1 e2 e3;have hl:=ae.len;refine UG w au s x 22 ho b 24 i0 _ 4 56 Tryz.underlying22 ak ai ah ag rfl (by omega) v _ _ hs aa _ A _ c rs hx hl aj ae.one (by simp only[maxLen];omega) (by omega) hb ?_;intro v' w' h3 h4 h5;rw[Nat.zero_add,List.nil_append] at h3;exact h v' w' (Z8.of_own (E:=Z7) h3 (fun k hk=>(h3.lt k hk).2) (ae.keep (fun p hp=>World.cell?_of_block (h4.block p.block hp.1 hp.2)) (fun k hk=>QV hk.1 h4.size))) (WF _ aa h4 hb)
theorem zOp (t:Z9) (p:List Int) (x y:Int) (A Ap:Option Addr) (cap cp:Nat) (w:World) (hv:Z8 Z7 w (Lt w.heap.size) t.kids (.slice A t.kids.length cap)) (aj:Zt t) (ak:ZW t<=900000) (hp:Z0 w (Lt w.heap.size) p (.slice Ap p.length cp)) (hx:Z4 x) (hy:Z4 y) :
  Calls Tryz.prog 79 #[.agg #[.int .i64 t.kind,.string t.text,.int .i64 t.cols,.slice A t.kids.length cap],.agg #[.slice Ap p.length cp,.int .i64 x,.int .i64 y]] w (zWg w (Yp t p x y)):=by
 have C1:Hid (∀W,Below w.heap.size w W->Calls Tryz.prog 64 #[.agg #[.int .i64 t.kind,.string t.text,.int .i64 t.cols,.slice A t.kids.length cap],.slice Ap p.length cp] W (Q6 W (ZR t p).1 (ZR t p).2)):=fun W hW=>(VS (.mk t.kind t.text t.cols t.kids) p A Ap cap cp W (by exact hv.below hW hW.size) aj.2.2 (by cases t;exact ak) (hp.below hW hW.size)).mono fun _ _ h=>by cases t;obtain⟨v,h1,h2,h3⟩:=h;exact⟨v,h1,h2.keep (WI _ _) (fun k hk=>QV hk h3.size),h3⟩
 have HR:Hid (((ZR t p).2≠0->Yp t p x y=([],(ZR t p).2))/\((ZR t p).2=0->(x<0\/y<x\/(ZR t p).1.kids.length<y)->Yp t p x y=([],2))/\((ZR t p).2=0->¬(x<0\/y<x\/(ZR t p).1.kids.length<y)->Yp t p x y=(((ZR t p).1.kids.take y.toNat).drop x.toNat,0))) :=
  ⟨fun h=>if_pos h,fun h1 h2=>(if_neg (by simp[h1])).trans (if_pos h2),fun h1 h2=>(if_neg (by simp[h1])).trans (if_neg h2)⟩
 have HC:Hid (ZT (ZR t p).1.kids<=900000):=zHt t p hv aj ak;generalize Yp t p x y=res at *;generalize ZR t p=r at *;obtain⟨tk,tx,tc,ts⟩:=t;obtain⟨⟨rk,rx,rc,rs⟩,er⟩:=r;simp only[Z9.kind,Z9.text,Z9.cols,Z9.kids] at *;clear hv aj ak hp;generalize av:(w.alloc (Obj.cells #[.int .i64 tk,.string tx,.int .i64 tc,.slice A ts.length cap] 24)).alloc (.cells #[.slice Ap p.length cp,.int .i64 x,.int .i64 y] 67)=W0;have KB:Hid (∀W,Below W0.heap.size W0 W->(W.cell? ⟨w.heap.size,0,none⟩=some (.int .i64 tk)/\W.cell? ⟨w.heap.size,1,none⟩=some (.string tx)/\W.cell? ⟨w.heap.size,2,none⟩=some (.int .i64 tc)/\W.cell? ⟨w.heap.size,3,none⟩=some (.slice A ts.length cap)) /\
   (W.cell? ⟨w.heap.size+1,0,none⟩=some (.slice Ap p.length cp)/\W.cell? ⟨w.heap.size+1,1,none⟩=some (.int .i64 x)/\W.cell? ⟨w.heap.size+1,2,none⟩=some (.int .i64 y))/\Below w.heap.size w W):=by
  intro W hW;have hz:W0.heap.size=w.heap.size+1+1:=by rw[<-av];simp
  have hc:=(bcell hW).1;have aD:Below w.heap.size w W0:=by rw[<-av];exact WU (XP _ _) _
  refine⟨⟨(hc _ _ (by omega)).trans ?_,(hc _ _ (by omega)).trans ?_,(hc _ _ (by omega)).trans ?_,(hc _ _ (by omega)).trans ?_⟩,⟨(hc _ _ (by omega)).trans ?_,(hc _ _ (by omega)).trans ?_,(hc _ _ (by omega)).trans ?_⟩,aD.trans (hW.mono aD.size)⟩
  all_goals (rw[<-av];first|exact XZ _ _ _ _ _ _ rfl|exact Zc _ _ _ _ _ (by simp))
 obtain⟨⟨m0,m1,m2,m3⟩,⟨c0,c1,c2⟩,af⟩:=KB.out W0 (QQ _ _);have az:=hid af;clear af;go_enter Tryz.func79,Tryz.ntmps79
 go_wp2_with fail
 refine(C1.out _ az.out).mono ?_;intro e w1 h1;obtain⟨v1,rfl,ai,aG⟩:∃v,e=.returned (.tuple #[.agg #[.int .i64 rk,.string rx,.int .i64 rc,v],.int .i64 er])/\Z8 Z7 w1 (Lt w1.heap.size) rs v/\Below W0.heap.size W0 w1:=h1;obtain⟨A1,n1,rfl⟩:=ai.form;have aH:=hid ai;have aA:=hid aG;clear m0 m1 m2 m3 c0 c1 c2 ai aG;rcases Decidable.em (er=0) with he|he
 case inr =>
  have HE:=hid he;have i0:(er != 0)=true:=by simpa using he
  go_wp2_with fail
  refine bodyPost_ret (v:=.tuple #[.slice none 0 0,.int .i64 er]) (by simp[results,Tryz.results79,go_sem]) rfl ?_;rw[HR.out.1 HE.out];exact⟨_,rfl,Z8.nil_ 0 (QU _) none,WU (KB.out w1 aA.out).2.2 _⟩
 subst he
 go_upto_region 4 with fail
 obtain⟨X,hX⟩:∃X,w1.alloc (Obj.cells #[.int .i64 rk,.string rx,.int .i64 rc,.slice A1 rs.length n1] 24)=X:=⟨_,rfl⟩;rw[hX];have ax:Hid (Below w1.heap.size w1 X):=by show Below _ _ _;rw[<-hX];exact XP _ _
 obtain⟨_,⟨_,b1,b2⟩,aC⟩:=KB.out X (aA.out.trans (ax.out.mono aA.out.size));have n3:X.cell? ⟨w1.heap.size,3,none⟩=some (.slice A1 rs.length n1):=by rw[<-hX];exact Zc _ _ _ _ _ rfl
 have aa:=hid aC;have aN:=hid (aH.out.below ax.out ax.out.size);clear aC hX;have aJ:rs.length<=n1:=by obtain⟨_,_,_,hq,h1,_⟩:=aH.out;cases hq;exact h1
 rcases Int.lt_or_le x 0 with h0|h0
 ·have i0:decide (x<0)=true:=by simpa using h0
  have HH:=hid h0;clear h0
  go_wp2_with fail
  refine bodyPost_ret (v:=.tuple #[.slice none 0 0,.int .i64 2]) (by simp[results,Tryz.results79,go_sem]) rfl ?_;rw[HR.out.2.1 trivial (Or.inl HH.out)];exact⟨_,rfl,Z8.nil_ 0 (QU _) none,aa.out⟩
 have i0:decide (x<0)=false:=by simpa using h0
 rcases Int.lt_or_le y x with h1|h1
 ·have i1:decide (y<x)=true:=by simpa using h1
  have HH:=hid h1;clear h1 h0
  go_wp2_with fail
  refine bodyPost_ret (v:=.tuple #[.slice none 0 0,.int .i64 2]) (by simp[results,Tryz.results79,go_sem]) rfl ?_;rw[HR.out.2.1 trivial (Or.inr (Or.inl HH.out))];exact⟨_,rfl,Z8.nil_ 0 (QU _) none,aa.out⟩
 have i1:decide (y<x)=false:=by simpa using h1
 rcases Int.lt_or_le rs.length y with h2|h2
 ·have i2:decide ((rs.length:Int)<y)=true:=by simpa using h2
  have HH:=hid h2;clear h1 h0 h2
  go_wp2_with fail
  refine bodyPost_ret (v:=.tuple #[.slice none 0 0,.int .i64 2]) (by simp[results,Tryz.results79,go_sem]) rfl ?_;rw[HR.out.2.1 trivial (Or.inr (Or.inr HH.out))];exact⟨_,rfl,Z8.nil_ 0 (QU _) none,aa.out⟩
 have i2:decide ((rs.length:Int)<y)=false:=by simpa using h2
 obtain⟨x',ah⟩:∃x':Nat,x=x':=⟨x.toNat,by omega⟩;obtain⟨y',ag⟩:∃y':Nat,y=y':=⟨y.toNat,by omega⟩;obtain⟨A2,hsl,hcut⟩:=RZ Z7 Tryz.underlying22 VZ A1 rs.length n1 x y x' y' ah ag (by omega) (by omega) aJ;have aO:=hid (hcut _ _ _ aN.out);have ay:Hid (res=((rs.take y').drop x',0)):=by
  have h:=HR.out.2.2 trivial (by show ¬(x<0\/y<x\/(rs.length:Int)<y);omega);rw[ah,ag,Int.toNat_natCast,Int.toNat_natCast] at h;exact h
 have aK:Hid (((rs.take y').drop x').length=y'-x'):=by show _=_;simp;omega
 have au:Hid (ZT ((rs.take y').drop x')<=900000):=by
  have h1:=zE0 (rs.take y') x';have h2:=Xy rs y';have h3:=HC.out;show _<=_;omega
 clear hcut h0 h1 h2 HR ah ag;have aL:=hid (World.ownsRow_made (base:=X.heap.size) (e:=24) (size:=4) X #[] 0 (QT _) (QU _) rfl)
 go_upto_region 6 with fail
 replace b1:=Yi X (.cells #[] 24) _ _ _ (by have:=aa.out.size;have:=RX b1;exact this) b1
 replace b2:=Yi X (.cells #[] 24) _ _ _ (by have:=aa.out.size;have:=RX b2;exact this) b2
 have aI:w1.heap.size<X.heap.size:=RX n3;have n4:=Yi X (.cells #[] 24) _ _ _ aI n3;generalize (rs.take y').drop x'=L at *;have ae:Hid (L.length<=1000000):=by have h1:=zIk L;have h2:=au.out;show _<=_;omega
 go_wp2_with first
  |(
    refine TJ rfl (.tmp 36) (.tmp 43) rfl X.heap.size _ L rfl aL.out _ _ _ rfl (VN aO.out) (by have:=ae.out;omega) (by simp) ?_;intro v2 w2 aB aF;have aM:=hid aB;have aP:=hid ((XP X (.cells #[] 24)).trans aF);clear aB aF)
 refine bodyPost_ret (v:=.tuple #[v2,.int .i64 0]) (by simp[results,Tryz.results79,go_sem]) rfl ?_;rw[ay.out];exact⟨_,rfl,aM.out,aa.out.trans (aP.out.mono aa.out.size)⟩
theorem zLb (p r:List Int) (Ap Ar:Option Addr) (cp cr:Nat) (w:World) (hp:Z0 w (Lt w.heap.size) p (.slice Ap p.length cp)) (hr:Z0 w (Lt w.heap.size) r (.slice Ar r.length cr)) (hl:p.length+r.length<=100000) :
  Calls Tryz.prog 72 #[.slice Ap p.length cp,.slice Ar r.length cr] w (Wl w (p++r)):=by
 have aa:=ZX w (.cells #[] 3);have HP:=hid (hp.keep (S':=Lt w.heap.size) (fun q hq=>aa.cell hq) (fun _ h=>h));have HR:=hid hr;have au:=hid aa;have HE:=hid (Uq (b:=w.heap.size) (Z5.at0 w (.cells #[] 3)) (QT _));clear hp hr aa;go_enter Tryz.func72,Tryz.ntmps72
 go_wp2_with (first
  |(at_builtin;refine YN rfl (.tmp 5) (.tmp 6) rfl w.heap.size _ [] p rfl HE.out (Lt w.heap.size) _ _ _ rfl HP.out (by simp;omega) (by simp) ?_;intro v1 w1 ae aa _;rw[List.nil_append] at ae;have aj:=hid ae;have af:=hid (au.out.trans aa);clear ae aa)
  |(at_builtin;refine YN rfl (.tmp 7) (.tmp 8) rfl w.heap.size _ p r rfl aj.out (Lt w.heap.size) _ _ _ rfl (HR.out.keep (fun q hq=>af.out.cell hq) (fun _ h=>h)) (by omega) af.out.size ?_;intro v2 w2 ag ah _;have ai:=hid ag;have ak:=hid (af.out.trans ah);clear ag ah)
  |fail)
 go_ret;exact⟨_,rfl,ai.out,ak.out⟩
def OwnO {α:Type} (E:YW α) (T:TypeId) (w:World) (b:Nat) (S:Nat->Prop) (ts:List α) (v:Value):Prop:=∃cs,w.ownsRow b T E.size v ts.length cs/\ZK E w S ts cs
section
variable {α:Type} {E:YW α} {T:TypeId}
end
theorem zLa (t:Z9) (p m:List Int) (A Ap Am:Option Addr) (cap cp cm:Nat) (w:World) (hv:Z8 Z7 w (Lt w.heap.size) t.kids (.slice A t.kids.length cap)) (au:t.text.size<=maxLen) (ax:ZW t<=900000) (hp:Z0 w (Lt w.heap.size) p (.slice Ap p.length cp)) (hm:Z0 w (Lt w.heap.size) m (.slice Am m.length cm)) :
  Calls Tryz.prog 69 #[.agg #[.int .i64 t.kind,.string t.text,.int .i64 t.cols,.slice A t.kids.length cap],.agg #[.slice Ap p.length cp,.slice Am m.length cm]] w (X4 w (ZI t p m)):=by
 obtain⟨W0,ag⟩:∃W0,((w.alloc (.cells #[.int .i64 t.kind,.string t.text,.int .i64 t.cols,.slice A t.kids.length cap] 24)).alloc (.cells #[.slice Ap p.length cp,.slice Am m.length cm] 27)).alloc (.cells #[.slice none 0 0,.int .i64 0,.int .i64 0] 67)=W0:=⟨_,rfl⟩;have ak:W0.heap.size=w.heap.size+1+1+1:=by rw[<-ag];simp
 have aa:Below w.heap.size w W0:=by rw[<-ag];exact Zq (Zq (ZX _ _) _) _
 have af:Z5 W0 w.heap.size (.cells #[.int .i64 t.kind,.string t.text,.int .i64 t.cols,.slice A t.kids.length cap] 24):=by rw[<-ag];exact((Z5.at0 _ _).al _).al _
 have ai:Z5 W0 (w.heap.size+1) (.cells #[.slice Ap p.length cp,.slice Am m.length cm] 27):=by rw[<-ag];exact(Z5.at1 _ _ _).al _
 have av:Z5 W0 (w.heap.size+1+1) (.cells #[.slice none 0 0,.int .i64 0,.int .i64 0] 67):=by rw[<-ag];exact Z5.at2 _ _ _ _
 have C:=hid (Uv t p m A Ap Am cap cp cm W0 (hv.below aa aa.size) au (hp.below aa aa.size) (hm.below aa aa.size) ax);have m0:=af.cell 0;have m1:=af.cell 1;have m2:=af.cell 2;have m3:=af.cell 3;have n0:=ai.cell 0;have n1:=ai.cell 1;simp only[List.getElem?_toArray,List.getElem?_cons_zero,List.getElem?_cons_succ] at m0 m1 m2 m3 n0 n1;have az:=hid aa;have aA:=hid ak;have ay:=hid av;generalize ZI t p m=OF at *;obtain⟨⟨sr,sa,sb⟩,se⟩:=OF;clear hv au ax hp hm aa ak af ai av;go_enter Tryz.func69,Tryz.ntmps69
 go_wp2_with fail
 refine C.out.mono ?_;rintro e w1 ⟨v1,rfl,ah,aj⟩;simp only at ah ⊢;obtain⟨A1,c1,rfl⟩:=ah.form;have hq:=ay.out.below aj;have HQ:=hid hq;have HR:=hid ah;have aB:=hid (az.out.trans (aj.mono az.out.size));clear m0 m1 m2 m3 n0 n1 ah aj hq ay
 go_wp2_with (first
  |(refine wpList_store_row rfl 67 (.tmp 4) (.tmp 9) rfl (w.heap.size+1+1) _ rfl rfl 67 _ HQ.out (by kernel_rfl) (by simp) (by simp[Value.oneCell']) ?_)
  |fail)
 have ae:=HQ.out.row #[.slice A1 sr.length c1,.int .i64 sa,.int .i64 sb];have r0:=ae.cell 0;have r1:=ae.cell 1;have r2:=ae.cell 2;simp only[List.getElem?_toArray,List.getElem?_cons_zero,List.getElem?_cons_succ] at r0 r1 r2;refine bodyPost_ret (v:=.tuple #[.agg #[.slice A1 sr.length c1,.int .i64 sa,.int .i64 sb],.int .i64 se]) (by simp[results,Tryz.results69,go_sem,r0,r1,r2]) rfl ?_;have hz:=aA.out;exact⟨_,rfl,HR.out.keep (fun q hq=>World.cell?_of_block (setRow_other _ _ _ _ (by have:=hq.1;omega))) (fun k hk=>⟨by have:=hk.1;omega,by rw[size_setRow];exact hk.2⟩),YV aB.out (by omega) _⟩
def Yx (r:List Int) (a:Int) (l:List Z9):List ZB:=if l.length=0 then [] else [Yn r a l]
def OpsO (w:World) (ops:List ZB) (e:Ending) (w':World):Prop:=∃v b,e=.returned v/\OwnO Zb 49 w' b (Lt b) ops v/\w.heap.size<=b/\b<=w'.heap.size/\Below w.heap.size w w'
theorem zMo (t:Z9) (r:List Int) (a b:Int) (A Ar:Option Addr) (cap cr:Nat) (w:World) (hv:Z8 Z7 w (Lt w.heap.size) t.kids (.slice A t.kids.length cap)) (ak:Zt t) (au:ZW t<=900000) (hr:Z0 w (Lt w.heap.size) r (.slice Ar r.length cr)) (ha:Z4 a) (hb:Z4 b) :
  Calls Tryz.prog 70 #[.agg #[.int .i64 t.kind,.string t.text,.int .i64 t.cols,.slice A t.kids.length cap],.agg #[.slice Ar r.length cr,.int .i64 a,.int .i64 b]] w (OpsO w (Yx r a (Yp t r a b).1)):=by
 obtain⟨W0,aj⟩:∃W0,(w.alloc (.cells #[.int .i64 t.kind,.string t.text,.int .i64 t.cols,.slice A t.kids.length cap] 24)).alloc (.cells #[.slice Ar r.length cr,.int .i64 a,.int .i64 b] 67)=W0:=⟨_,rfl⟩;have ae:Below w.heap.size w W0:=by rw[<-aj];exact Zq (ZX _ _) _
 have ag:Z5 W0 w.heap.size (.cells #[.int .i64 t.kind,.string t.text,.int .i64 t.cols,.slice A t.kids.length cap] 24):=by rw[<-aj];exact(Z5.at0 _ _).al _
 have af:Z5 W0 (w.heap.size+1) (.cells #[.slice Ar r.length cr,.int .i64 a,.int .i64 b] 67):=by rw[<-aj];exact Z5.at1 _ _ _
 have C:=hid (zOp t r a b A Ar cap cr W0 (hv.below ae ae.size) ak au (hr.below ae ae.size) ha hb);have m0:=ag.cell 0;have m1:=ag.cell 1;have m2:=ag.cell 2;have m3:=ag.cell 3;have n0:=af.cell 0;have n1:=af.cell 1;have n2:=af.cell 2;simp only[List.getElem?_toArray,List.getElem?_cons_zero,List.getElem?_cons_succ] at m0 m1 m2 m3 n0 n1 n2;have ax:=hid ae;have av:=hid af;have ay:=hid hr;have HA:=hid ha;generalize Yp t r a b=IR at *;obtain⟨l,ie⟩:=IR;clear hv ak au hr ha hb ae ag af;go_enter Tryz.func70,Tryz.ntmps70
 go_wp2_with fail
 refine C.out.mono ?_;rintro e w1 ⟨v1,rfl,ah,ai⟩;simp only at ah ⊢;obtain⟨A1,c1,rfl⟩:=ah.form;have hq:=av.out.below ai;have HR:=hid ah;have aa:=hid (ax.out.trans (ai.mono ax.out.size));clear m0 m1 m2 m3 n0 n1 n2 ah ai av;have n0:=hq.cell 0;have n1:=hq.cell 1;simp only[List.getElem?_toArray,List.getElem?_cons_zero,List.getElem?_cons_succ] at n0 n1;clear hq;rcases Nat.eq_zero_or_pos l.length with h0|h0
 ·have HE:Hid (Yx r a l=[]):=by show _=_;unfold Yx;exact if_pos h0
  have i0:((l.length:Int)==0)=true:=by simp[h0]
  clear h0
  go_wp2_with fail
  go_ret;rw[HE.out];exact⟨_,w1.heap.size,rfl,⟨[],World.ownsRow_nil _ _ _ _,rfl⟩,aa.out.size,QT _,aa.out⟩
 have HE:Hid (Yx r a l=[Yn r a l]):=by show _=_;unfold Yx;exact if_neg (by omega)
 have i0:((l.length:Int)==0)=false:=by rw[beq_eq_false_iff_ne];omega
 clear h0
 go_wp2_with fail
 go_ret;rw[HE.out];have hz:(⟨#[]⟩:ByteArray).size<=maxLen:=QU _;have hx:Zb.R w1 (Lt w1.heap.size) (Yn r a l) [.int .i64 2,.slice Ar r.length cr,.int .i64 a,.int .i64 0,.slice A1 l.length c1,.int .i64 0,.string ⟨#[]⟩,.string ⟨#[]⟩]:=⟨_,_,rfl,by unfold Z4 Yn;simp,HA.out,by unfold Z4 Yn;simp,by unfold Z4 Yn;simp,hz,hz,ay.out.below aa.out aa.out.size,HR.out⟩;have ho:=World.ownsRow_lit (base:=w1.heap.size) (e:=49) (size:=8) w1 #[.int .i64 2,.slice Ar r.length cr,.int .i64 a,.int .i64 0,.slice A1 l.length c1,.int .i64 0,.string ⟨#[]⟩,.string ⟨#[]⟩] 1 (QT _) (by simp[maxLen]) rfl;exact⟨_,w1.heap.size,rfl,⟨_,ho,ZK.single (Zb.keep hx (fun q hq=>(ZX w1 _).cell hq) (fun k hk=>hk))⟩,aa.out.size,(ZX w1 _).size,aa.out.trans ((ZX w1 _).mono aa.out.size)⟩
end Go.Proofs.YthpngeboknmllaaGreat
namespace Go.Proofs.YthpngeboknmllaaGreat
open Go.RowKit Go.ChangeShapes Go.WideShapes Go.ChangeAt
theorem own:ownKnob Tryz.prog.godebug=none:=by kernel_rfl
theorem Uj:laidOutB Tryz.prog=true:=by kernel_rfl
theorem Ux:Tryz.prog.readableRec 24=true/\24<Tryz.prog.types.size:=⟨by kernel_rfl,of_decide_eq_true (by kernel_rfl)⟩
section
variable {H:Type} {enc:TypeId×Value->H} {w:World} {base:Nat} {spare:Nat->Bool} {held:Bool}
theorem zP3 {r:Reach} {b0:Nat} {v:Value} {d:DataW H} {ps:List MemPlace} (hv:Value.okWide Tryz.prog w r b0 24 v) (h:DataW.Trod enc Tryz.prog w base spare held 24 v d ps) :
  ∃(t:Z9) (A:Option Addr) (c:Nat),v=.agg #[.int .i64 t.kind,.string t.text,.int .i64 t.cols,.slice A t.kids.length c]/\Z4 t.kind/\Z4 t.cols/\t.text.size<=maxLen/\zOc w (Lt w.heap.size) t.kids (.slice A t.kids.length c):=by
 obtain⟨cs,rfl,hsz⟩:=okWide_struct Tryz.underlying24 hv;obtain⟨aa,hf⟩:=h;obtain⟨t,ht⟩:=zPs aa _ _ hf;obtain⟨v,ae,h1,h2,h3,h4⟩:=YI.1 ht;obtain⟨A,c,rfl⟩:=h4.form;refine⟨t,A,c,?_,h1,h2,h3,h4⟩;congr 1;exact Array.toList_inj.1 ae
end
theorem Uw:Tryz.prog.readableRec 4=true/\4<Tryz.prog.types.size:=⟨by kernel_rfl,of_decide_eq_true (by kernel_rfl)⟩
theorem zPt:Tryz.prog.readableRec 27=true/\27<Tryz.prog.types.size:=⟨by kernel_rfl,of_decide_eq_true (by kernel_rfl)⟩
section
variable {H:Type} {enc:TypeId×Value->H} {w:World} {base:Nat} {spare:Nat->Bool} {held:Bool}
theorem zMc:Tryz.prog.cellsOf 27=2:=by kernel_rfl
theorem zMm {fuel:Nat} {cs:List Value} {x:DataW H×List MemPlace} (h:DataW.trod enc Tryz.prog w base spare held fuel 27 cs=some x):∃p m vp vm,cs=[vp,vm]/\Z0 w (Lt w.heap.size) p vp/\Z0 w (Lt w.heap.size) m vm:=by
 obtain⟨xs,n,hfu,hx,aa,af,hf⟩:=DataW.trod_struct Tryz.underlying27 h;rw[zMc] at aa
 match cs,aa with
 |
  [c0,c1],_ =>
  have g0:DataW.trod enc Tryz.prog w base spare held n 25 (([c0,c1].drop 0).take (Tryz.prog.cellsOf 25))=xs[0]?:=hf 0 _ rfl;rw[zJw] at g0;have f0:DataW.trod enc Tryz.prog w base spare held n 25 [c0]=xs[0]?:=g0;have g1:DataW.trod enc Tryz.prog w base spare held n 25 (([c0,c1].drop 1).take (Tryz.prog.cellsOf 25))=xs[1]?:=hf 1 _ rfl;rw[zJw] at g1;have f1:DataW.trod enc Tryz.prog w base spare held n 25 [c1]=xs[1]?:=g1;have ae:xs.length=2:=af;obtain⟨y0,e0⟩:=Sm f0 (by omega);obtain⟨y1,e1⟩:=Sm f1 (by omega);obtain⟨a0,v0,q0,h0⟩:=zK9 e0;obtain⟨a1,v1,q1,h1⟩:=zK9 e1;simp only[List.cons.injEq,and_true] at q0 q1;subst q0 q1;exact⟨a0,a1,_,_,rfl,h0,h1⟩
theorem zMu {r:Reach} {b0:Nat} {v:Value} {d:DataW H} {ps:List MemPlace} (hv:Value.okWide Tryz.prog w r b0 27 v) (h:DataW.Trod enc Tryz.prog w base spare held 27 v d ps) :
  ∃(p m:List Int) (Ap Am:Option Addr) (cp cm:Nat),v=.agg #[.slice Ap p.length cp,.slice Am m.length cm]/\Z0 w (Lt w.heap.size) p (.slice Ap p.length cp)/\Z0 w (Lt w.heap.size) m (.slice Am m.length cm):=by
 obtain⟨cs,rfl,hsz⟩:=okWide_struct Tryz.underlying27 hv;obtain⟨ae,hf⟩:=h;obtain⟨p,m,vp,vm,aa,h1,h2⟩:=zMm hf;obtain⟨Ap,cp,rfl⟩:=h1.form;obtain⟨Am,cm,rfl⟩:=h2.form;refine⟨p,m,Ap,Am,cp,cm,?_,h1,h2⟩;congr 1;exact Array.toList_inj.1 aa
end
