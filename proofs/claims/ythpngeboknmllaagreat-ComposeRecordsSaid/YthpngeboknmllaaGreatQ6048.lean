/- T -/
import Derived.Test.YthpngeboknmllaaGreatQ1c13
import Derived.RegionTactic
import Derived.OwnWalk
import Derived.Lib.AppendZerosOnto
import Derived.Lib.AppendZeros
import Derived.Deep.QuietTactic
import Derived.BigQuiet
import Derived.BigRegion
import Derived.IntWalk
set_option linter.unusedVariables false
set_option linter.unusedSimpArgs false
set_option maxHeartbeats 1000000
set_option maxRecDepth 100000
namespace Go.Proofs.YthpngeboknmllaaGreat
open Go.RowKit
section
variable {P:Program} (w:World)
theorem zGl (base:Nat) (t ty e:TypeId) (i:TypeInfo) (size:Nat) (ht:P.underlying t=some (.slice e)) (hi:P.info? e=some i)
  (v:Value) (n:Nat) (xs:List Value) (aa:w.ownsRow base e size v n xs) (c:Nat):(Builtin.append_ #[t,t] ty #[v,.slice none 0 c]).run P w=.ok v w:=by
 rcases aa.2 with ⟨rfl,rfl⟩|⟨g,cap,cur,rfl,_,_,ae,_⟩
 ·simp[Builtin.append_,run_underlying ht,sizeOf,typeInfo,hi,Builtin.lenOf,Builtin.firstCells]
 simp[Builtin.append_,run_underlying ht,sizeOf,typeInfo,hi,Builtin.lenOf,Builtin.firstCells,ae,storeCells]
theorem zI1 (base:Nat) (t ty e:TypeId) (i:TypeInfo) (z:Value) (size bytes:Nat) (ht:P.underlying t=some (.slice e)) (hi:P.info? e=some i) (hz:i.zero=some z)
  (ag:i.size=size) (av:i.bytes=bytes) (au:z.cells.size=size) (ak:0<size)
  (v:Value) (n:Nat) (xs:List Value) (ae:w.ownsRow base e size v n xs)
  (B:Nat->Prop) (A:Option Addr) (m c:Nat) (aa:List Value) (hl:aa.length=m*size) (hr:Zd w B A aa) (h1:∀u∈aa,u.oneCell'=true)
  (ax:n+m<=maxLen) (af:(n+m)*bytes<=140737488355328) (ah:base<=w.heap.size) :
  ∃
   v' w',(Builtin.append_ #[t,t] ty #[v,.slice A m c]).run P w=.ok v' w'/\w'.ownsRow base e size v' (n+m) (xs++aa)/\w.grownBy w' v.ownBlock /\
   (v'.ownBlock=v.ownBlock\/v'.ownBlock=some w.heap.size):=by
 rcases A with _|ad
 ·have hm:m=0:=by
   rcases Nat.eq_zero_or_pos m with h0|h0
   ·exact h0
   obtain⟨ad,h⟩:=hr.some_ (by rw[hl];exact Nat.mul_pos h0 ak);cases h
  subst hm;have hn:aa=[]:=List.eq_nil_of_length_eq_zero (by simpa using hl);subst hn;exact⟨v,w,zGl w base t ty e i size ht hi v n xs ae c,by simpa using ae,World.grownBy.refl w _,.inl rfl⟩
 obtain⟨v',w',aj,h2,h3,_,h5⟩:=run_append_own_at (P:=P) w base t ty e i z size bytes ht hi hz ag av au ak v n xs ae ad m c aa hl (hr.add ad rfl) h1 ax af ah;exact⟨v',w',aj,h2,h3,h5⟩
theorem zFx {o:Oper} {a:Act} {K:Act->World->Prop} {Q:Exit->Act->World->Prop} (s x:Operand) (t:TypeId)
  (ho:o.op=.call { callee:=.builtin .append,args:=#[s,x],argTypes:=#[t,t] })
  (base:Nat) (e:TypeId) (i:TypeInfo) (z:Value) (size bytes:Nat) (ht:P.underlying t=some (.slice e)) (hi:P.info? e=some i) (hz:i.zero=some z)
  (af:i.size=size) (av:i.bytes=bytes) (ak:z.cells.size=size) (au:0<size)
  (v:Value) (n:Nat) (xs:List Value) (hs:a.eval s=v) (aj:w.ownsRow base e size v n xs)
  (B:Nat->Prop) (A:Option Addr) (m c:Nat) (aa:List Value) (hx:a.eval x=.slice A m c) (hl:aa.length=m*size) (hr:Zd w B A aa) (h1:∀u∈aa,u.oneCell'=true)
  (ax:n+m<=maxLen) (ae:(n+m)*bytes<=140737488355328) (ag:base<=w.heap.size)
  (h:∀v' w',w'.ownsRow base e size v' (n+m) (xs++aa)->w.grownBy w' v.ownBlock->(v'.ownBlock=v.ownBlock\/v'.ownBlock=some w.heap.size)->K (a.put o.dst v') w'):o.wp P a w K Q:=by
 obtain⟨v',w',ah,h2,h3,h4⟩:=zI1 (P:=P) w base t o.type e i z size bytes ht hi hz af av ak au v n xs aj B A m c aa hl hr h1 ax ae ag;unfold Oper.wp execOp;simp only[ho,resolve,invoke,builtin,Sem.run_bind,Sem.run_pure,Result.andThen_ok,List.map_toArray,List.map_cons,List.map_nil,hs,hx,ah];exact h v' w' h2 h3 h4
theorem TF {ops:Array Oper} {rest:List Oper} {o:Oper} {a:Act} {Q:Exit->Act->World->Prop} (au:o.guard=none) (s x:Operand) (t:TypeId)
  (ho:o.op=.call { callee:=.builtin .append,args:=#[s,x],argTypes:=#[t,t] })
  (base:Nat) (e:TypeId) (i:TypeInfo) (z:Value) (size bytes:Nat) (ht:P.underlying t=some (.slice e)) (hi:P.info? e=some i) (hz:i.zero=some z)
  (af:i.size=size) (av:i.bytes=bytes) (aj:z.cells.size=size) (ak:0<size)
  (v:Value) (n:Nat) (xs:List Value) (hs:a.eval s=v) (ah:w.ownsRow base e size v n xs)
  (B:Nat->Prop) (A:Option Addr) (m c:Nat) (aa:List Value) (hx:a.eval x=.slice A m c) (hl:aa.length=m*size) (hr:Zd w B A aa) (h1:∀u∈aa,u.oneCell'=true)
  (ax:n+m<=maxLen) (ae:(n+m)*bytes<=140737488355328) (ag:base<=w.heap.size)
  (h:∀v' w',w'.ownsRow base e size v' (n+m) (xs++aa)->w.grownBy w' v.ownBlock->(v'.ownBlock=v.ownBlock\/v'.ownBlock=some w.heap.size)->wpList P ops Q rest (a.put o.dst v') w'):wpList P ops Q (o::rest) a w :=
 wpList_plain au fun _ hK=>zFx w s x t ho base e i z size bytes ht hi hz af av aj ak v n xs hs ah B A m c aa hx hl hr h1 ax ae ag fun v' w' h2 h3 h4=>hK _ _ (h v' w' h2 h3 h4)
theorem zC6 {ops:Array Oper} {o:Oper} {a:Act} {K:Act->World->Prop} {Q:Exit->Act->World->Prop} {E:Prop} (au:o.guard=none) (s x:Operand) (t:TypeId)
  (ho:o.op=.call { callee:=.builtin .append,args:=#[s,x],argTypes:=#[t,t] })
  (base:Nat) (e:TypeId) (i:TypeInfo) (z:Value) (size bytes:Nat) (ht:P.underlying t=some (.slice e)) (hi:P.info? e=some i) (hz:i.zero=some z)
  (af:i.size=size) (av:i.bytes=bytes) (aj:z.cells.size=size) (ak:0<size)
  (v:Value) (n:Nat) (xs:List Value) (hs:a.eval s=v) (ah:w.ownsRow base e size v n xs)
  (B:Nat->Prop) (A:Option Addr) (m c:Nat) (aa:List Value) (hx:a.eval x=.slice A m c) (hl:aa.length=m*size) (hr:Zd w B A aa) (h1:∀u∈aa,u.oneCell'=true)
  (ax:n+m<=maxLen) (ae:(n+m)*bytes<=140737488355328) (ag:base<=w.heap.size)
  (h:∀v' w',w'.ownsRow base e size v' (n+m) (xs++aa)->w.grownBy w' v.ownBlock->(v'.ownBlock=v.ownBlock\/v'.ownBlock=some w.heap.size)->K (a.put o.dst v') w') :
  if Region.wanted o (yielded ops a.tmps)=true then Oper.wp P o a w K Q else E:=by
 have hw:Region.wanted o (yielded ops a.tmps)=true:=by simp[Region.wanted,au]
 rw[if_pos hw];exact zFx w s x t ho base e i z size bytes ht hi hz af av aj ak v n xs hs ah B A m c aa hx hl hr h1 ax ae ag h
theorem QF {base e size n:Nat} {v:Value} {cs:List Value} {w1:World} (h:w.ownsRow base e size v n cs) (hb:Below w.heap.size w w1):w1.ownsRow base e size v n cs :=
 h.kept (w':=w1) (row:=none) ⟨hb.os,hb.tape,hb.output,hb.size,fun k hk _=>hb.block k hk⟩ (by cases v.ownBlock<;>simp)
theorem Un {base e size n:Nat} {v:Value} {cs:List Value} {w1:World} (h:w.ownsRow base e size v n cs) (hg:w.grownBy w1 v.ownBlock) (hB:base<=w.heap.size):Below base w w1 :=
 (Qg _ _).grown hg hB (fun k hk=>(h.lt k hk).1)
end
theorem zH8:(Tryz.prog.info? 3).map (fun i=>(i.zero,i.size,i.bytes))=some (some (.int .i64 0),1,8):=by kernel_rfl
def YH (w:World) (b:Nat) (xs:List Int) (v:Value):Prop:=w.ownsRow b 3 1 v xs.length (xs.map (.int .i64 ·))/\∀x∈xs,Z4 x
theorem YH.ints {w:World} {b:Nat} {xs:List Int} {v:Value} (h:YH w b xs v) {S:Nat->Prop} (hB:∀k,b<=k->k<w.heap.size->S k):Z0 w S xs v :=
 Z8.of_own (E:=ZA) h.1 (fun k hk=>hB k (h.1.lt k hk).1 (h.1.lt k hk).2) (Ws.2 ⟨rfl,h.2⟩)
theorem zEg {w:World} {ops:Array Oper} {rest:List Oper} {o:Oper} {a:Act} {Q:Exit->Act->World->Prop} (av:o.guard=none) (s x:Operand)
  (ho:o.op=.call { callee:=.builtin .append,args:=#[s,x],argTypes:=#[25,25] })
  (b:Nat) (v:Value) (xs ys:List Int) (hs:a.eval s=v) (aa:YH w b xs v) (S:Nat->Prop) (A:Option Addr) (m c:Nat) (hx:a.eval x=.slice A m c) (hr:Z0 w S ys (.slice A m c))
  (af:xs.length+ys.length<=1000000000) (hb:b<=w.heap.size)
  (h:∀v' w',YH w' b (xs++ys) v'->Below b w w'->(v'.ownBlock=v.ownBlock\/v'.ownBlock=some w.heap.size)->wpList Tryz.prog ops Q rest (a.put o.dst v') w'):wpList Tryz.prog ops Q (o::rest) a w:=by
 obtain⟨i0,au,aj,ah,ag⟩:=info_parts zH8;obtain⟨A',cap',rs,e,h1,h2,ak,ae⟩:=hr;injection e with e1 e2 e3
 subst e1 e2 e3;have hl:=ae.len;have hp:=(Ws.1 ae);refine TF w av s x 25 ho b 3 i0 _ 1 8 Tryz.underlying25 au aj ah ag rfl (by omega) v _ _ hs aa.1 S A _ c rs hx hl ak ae.one (by simp only[maxLen];omega) (by omega) hb ?_;intro v' w' h3 h4 h5;refine h v' w' ⟨?_,?_⟩ (Un _ aa.1 h4 hb) h5
 ·rw[List.length_append,List.map_append,<-hp.1];exact h3
 intro y hy;rcases List.mem_append.1 hy with hy|hy
 ·exact aa.2 y hy
 exact hp.2 y hy
theorem UT (w:World) (xs:List Int) (h:∀x∈xs,Z4 x) {S:Nat->Prop} (hS:S w.heap.size) (cs:Array Value) (n:Nat) (hc:cs=(xs.map (Value.int .i64 ·)).toArray) (hn:n=xs.length) (hl:n<=maxLen) (e:TypeId) (g:Nat) (hg:g=w.heap.size) :
  Z0 (w.alloc (.cells cs e)) S xs (.slice (some ⟨g,0,none⟩) n n):=by
 subst hc hn hg;refine⟨_,_,xs.map (Value.int .i64 ·),rfl,Qi _,hl,fun _=>⟨w.heap.size,0,rfl,hS,fun j u hu=>?_⟩,Ws.2 ⟨rfl,h⟩⟩;rw[Nat.zero_add,World.cell?_alloc_new];simpa using hu
theorem QG (w:World):YH (w.alloc (.cells #[] 3)) w.heap.size [] (.slice (some ⟨w.heap.size,0,none⟩) 0 0) :=
 ⟨World.ownsRow_made w _ 0 (Qi _) (by simp) rfl,by simp⟩
theorem YH.below {w w':World} {b:Nat} {xs:List Int} {v:Value} (h:YH w b xs v) (hb:Below w.heap.size w w'):YH w' b xs v:=⟨QF _ h.1 hb,h.2⟩
def Ud (w:World) (e:Ending) (w':World):Prop:=∃v,e=.returned v/\w'.ownsRow w.heap.size 3 1 v 0 []/\Below w.heap.size w w'
theorem UN (w:World) (n:Nat) (hn:n<=1000000000):Calls Tryz.prog 115 #[.slice none 0 0,.int .i64 n] w (Ud w):=by
 obtain⟨i0,ak,aj,hz1,ah⟩:=info_parts zH8;rcases Nat.eq_zero_or_pos n with h0|h0
 ·subst h0;go_enter Tryz.func115,Tryz.ntmps115
  go_wp2
  go_ret;exact⟨_,rfl,⟨by simp,.inl ⟨rfl,rfl⟩⟩,Qg _ _⟩
 have af:∀ty,(Builtin.append_ #[25,3] ty #[.slice none 0 0,.int .i64 (n:Int)]).run Tryz.prog w =
   .ok (.slice (some ⟨w.heap.size,0,none⟩) n (grownCap w n 0 3)) (w.drew.alloc (.cells (Builtin.zeroCells (Value.int .i64 0).cells n++Builtin.zeroCells (Value.int .i64 0).cells (grownCap w n 0 3-n)) 3)):=fun ty=>by
  have h:=Lib.run_append_grow_zeros (P:=Tryz.prog) w 25 3 ty 3 i0 (.int .i64 0) .i64 .i64 Tryz.underlying25 Tryz.underlying3 ak aj none 0 0 []
   (run_firstCells_none w.drew i0.size 0 0 0) n h0 (by omega) (by omega) (by omega) (by rw[ah];omega)
   (by rw[ah];exact growslice_fits (by omega) (by omega))
  simpa using h
 have au:n<=grownCap w n 0 3:=grownCap_ge w _ _ _;have ag:=grownCap_le_maxLen w n 0 3 (by unfold maxLen;omega);have aa:Below w.heap.size w (w.drew.alloc (.cells (Builtin.zeroCells (Value.int .i64 0).cells n++Builtin.zeroCells (Value.int .i64 0).cells (grownCap w n 0 3-n)) 3)):=(Qg _ _).drew.alloc (Qi _) _;have ae:(w.drew.alloc (.cells (Builtin.zeroCells (Value.int .i64 0).cells n++Builtin.zeroCells (Value.int .i64 0).cells (grownCap w n 0 3-n)) 3)).ownsRow w.heap.size 3 1 (.slice (some ⟨w.heap.size,0,none⟩) 0 (grownCap w n 0 3)) 0 [] :=
  World.ownsRow_made w.drew _ _ (Qi _) ag (by rw[Array.size_append,size_zeroCells,size_zeroCells];simp[Value.cells];omega)
 obtain⟨G,hG⟩:∃G,G=grownCap w n 0 3:=⟨_,rfl⟩;rw[<-hG] at af au ag aa ae;unfold maxLen at ag;obtain⟨W,hW⟩:∃W,W=(w.drew.alloc (.cells (Builtin.zeroCells (Value.int .i64 0).cells n++Builtin.zeroCells (Value.int .i64 0).cells (G-n)) 3)):=⟨_,rfl⟩;rw[<-hW] at af aa ae;have HO:=hid ae;have HB:=hid aa;clear ae aa hG hW;go_enter Tryz.func115,Tryz.ntmps115
 go_wp2_with (at_builtin;refine Lib.wpList_append_run _ rfl _ _ _ _ rfl _ _ rfl rfl _ _ (af _) ?_)
 go_ret;exact⟨_,rfl,HO.out,HB.out⟩
theorem zJ5 {w:World} {S:Nat->Prop} {xss:List (List Int)} {A:Option Addr} {cs:List Value} (h3:Zd w S A cs) (h4:ZG (XK ZA) w S xss cs) {k:Nat} (hk:k<xss.length) :
  ∃g o A' cap' rs,A=some ⟨g,o,none⟩/\S g/\w.cell? ⟨g,o+k,none⟩=some (.slice A' xss[k].length cap')/\xss[k].length<=cap'/\cap'<=maxLen/\Zd w S A' rs/\ZG ZA w S xss[k] rs:=by
 obtain⟨g,o,c,e,hb,⟨v,rfl,A',cap',rs,rfl,h5,h6,h7,h8⟩,hc⟩:=RB h3 h4 hk;exact⟨g,o,A',cap',rs,e,hb,by simpa[XK] using hc 0 _ rfl,h5,h6,h7,h8⟩
theorem zPp {w:World} {S:Nat->Prop} {xss:List (List Int)} {cs:List Value} (h:ZG (XK ZA) w S xss cs):∀x∈xss.flatten,Z4 x:=by
 induction xss generalizing cs with
 |nil=>simp
 |
  cons xs xss ih =>
  obtain⟨c,r,rfl,⟨v,rfl,A,cap,rs,rfl,_,_,_,hl⟩,hr⟩:=h;intro x hx;rw[List.flatten_cons,List.mem_append] at hx;rcases hx with hx|hx
  ·exact(Ws.1 hl).2 x hx
  exact ih hr x hx
def QU (w:World) (xs:List Int) (e:Ending) (w':World):Prop:=∃v,e=.returned v/\YH w' w.heap.size xs v/\Below w.heap.size w w'
def zGi (w:World) (xs:List Int) (e:Ending) (w':World):Prop:=∃v,e=.returned v/\Z0 w' (Lt w'.heap.size) xs v/\Below w.heap.size w w'
def Xk (xss:List (List Int)):Nat:=xss.flatten.length
theorem zC9 (xss:List (List Int)) (k:Nat):Xk (xss.take k)<=Xk xss:=by
 unfold Xk
 conv=>rhs;rw[<-List.take_append_drop k xss]
 rw[List.flatten_append,List.length_append];omega
theorem zDf (xss:List (List Int)) {k:Nat} (hk:k<xss.length):(xss.take (k+1)).flatten=(xss.take k).flatten++xss[k]:=by
 rw[List.take_succ_eq_append_getElem hk,List.flatten_append,List.flatten_cons,List.flatten_nil,List.append_nil]
theorem Qq (xss:List (List Int)) (w:World) (v:Value) (hv:Z8 (XK ZA) w (Lt w.heap.size) xss v) (au:xss.flatten.length<=1000000) :
  Calls Tryz.prog 87 #[v] w (QU w xss.flatten):=by
 obtain⟨A,cap,rs,rfl,aQ,aA,ak,ag⟩:=hv;obtain⟨i0,aK,aI,aH,aG⟩:=info_parts zH8;unfold maxLen at aA;have hl1:xss.length<=9223372036854775807:=by omega
 have H:Hid (Zd w (Lt w.heap.size) A rs/\ZG (XK ZA) w (Lt w.heap.size) xss rs):=⟨ak,ag⟩;clear ak ag;have aM:Xk xss<=1000000:=au;clear au;go_enter Tryz.func87,Tryz.ntmps87
 go_wp2
 go_loop [3,11] (fun s i=>∃k:Nat,k<=xss.length/\i=.int .i64 k/\s=.int .i64 (Xk (xss.take k))) (fun _ i=>xss.length-(intOf i).toNat)
 case atStart=>exact⟨0,Qj _,rfl,rfl⟩
 obtain⟨k,hk,rfl,rfl⟩:=hrel;have aP:=zC9 xss k;by_cases ah:k<xss.length
 ·obtain⟨g,o,A',cap',aB,rfl,hg,c0,_,_,_,_⟩:=zJ5 H.out.1 H.out.2 ah;have aO:=zC9 xss (k+1);have HF:Hid (Xk (xss.take (k+1))=Xk (xss.take k)+xss[k].length):=by show _=_;unfold Xk;rw[zDf xss ah,List.length_append]
  have aN:Xk (xss.take k)+xss[k].length<=1000000:=by rw[<-HF.out];omega
  have aJ:decide ((Xk (xss.take k):Int)+(xss[k].length:Int)<0)=false:=by simp;omega
  go_wp2
  go_round
  case rel=>exact⟨k+1,by omega,by go_num,by rw[HF.out];go_num⟩
  case measure=>simp[intOf];omega
 have aF:Xk (xss.take k)=Xk xss:=by rw[List.take_of_length_le (by omega)]
 rw[aF];clear aF
 go_wp2_with fail
 refine(UN w (Xk xss) (by omega)).mono ?_;rintro e w1 ⟨v1,rfl,af,av⟩;have H1:Hid (Zd w1 (Lt w.heap.size) A rs/\ZG (XK ZA) w1 (Lt w.heap.size) xss rs):=⟨H.out.1.keep (Zr.of_below av (Qi _)) (fun _ h=>h),H.out.2.keep (Zr.of_below av (Qi _)) (fun _ h=>h)⟩;have HO:Hid (w1.ownsRow w.heap.size 3 1 v1 0 []/\Below w.heap.size w w1):=⟨af,av⟩;have ay:=av.size;clear af av
 go_wp2_with fail
 go_loopw [6,27] (fun s i wr=>Below w.heap.size w1 wr/\∃k:Nat,k<=xss.length/\i=.int .i64 k/\wr.ownsRow w.heap.size 3 1 s (Xk (xss.take k)) ((xss.take k).flatten.map (.int .i64 ·))) (fun _ i _=>xss.length-(intOf i).toNat)
 case atStart=>exact⟨Qg _ _,0,Qj _,rfl,by simpa[Xk] using HO.out.1⟩
 obtain⟨aj,k,hk,rfl,aa⟩:=hrel;have aP:=zC9 xss k;by_cases ah:k<xss.length
 ·obtain⟨g,o,A',cap',aB,rfl,hg,c0,_,_,ak,ag⟩:=zJ5 (H1.out.1.keep (Zr.of_below aj (Qi _)) (fun _ h=>h)) (H1.out.2.keep (Zr.of_below aj (Qi _)) (fun _ h=>h)) ah;have aO:=zC9 xss (k+1);have HF:Hid (Xk (xss.take (k+1))=Xk (xss.take k)+xss[k].length):=by show _=_;unfold Xk;rw[zDf xss ah,List.length_append]
  have aN:Xk (xss.take k)+xss[k].length<=1000000:=by rw[<-HF.out];omega
  have az:=ag.one;have aD:=ag.len;have HP:=hid (Ws.1 ag).1;have HL:Hid (aB.length=xss[k].length*1):=aD;clear aD;have aC:w.heap.size<=wr.heap.size:=Qf ay aj.size;have aT:=hid ak;have ax:=hid aa;clear ak ag aa aM
  go_wp2_with (at_builtin;refine TF _ rfl (.tmp 31) (.tmp 32) _ rfl w.heap.size 3 i0 _ 1 8 Tryz.underlying25 aK aI aH aG rfl (by omega) _ _ _ rfl ax.out _ _ _ _ _ rfl HL.out aT.out az (by simp only[maxLen];omega) (by omega) aC ?_;intro v2 w2 ae aL aS)
  have aR:Below w.heap.size wr w2:=Un _ ax.out aL aC;rw[HP.out] at ae;go_roundw
  case rel=>exact⟨aj.trans aR,k+1,by omega,by go_num,by rw[HF.out,zDf xss ah,List.map_append];exact ae⟩
  case measure=>simp[intOf];omega
 have he:xss.take k=xss:=List.take_of_length_le (by omega);rw[he] at aa;have ax:=hid aa;have HB:=hid aj;clear he aa aj
 go_wp2_with fail
 go_ret;exact⟨_,rfl,⟨ax.out,zPp H.out.2⟩,HO.out.2.trans HB.out⟩
theorem zQp (xs:List Int) (w:World) (v:Value) (hv:Z0 w (Lt w.heap.size) xs v) (ax:xs.length<=1000000) :
  Calls Tryz.prog 97 #[v] w (QU w xs):=by
 obtain⟨A,cap,rs,rfl,ak,aj,aa,ae⟩:=hv;obtain⟨i0,hi0,hz0,hz1,hz2⟩:=info_parts zH8;unfold maxLen at aj;have hl1:xs.length<=9223372036854775807:=by omega
 have ah:=ae.one;have HP:=hid (Ws.1 ae);have HL:Hid (rs.length=xs.length*1):=ae.len;have au:=hid aa;clear ae;rcases A with _|ad
 ·have h0:xs.length=0:=by
   rcases Nat.eq_zero_or_pos xs.length with h0|h0
   ·exact h0
   obtain⟨ad,h⟩:=aa.some_ (by rw[HL.out];omega);cases h
  have hx:xs=[]:=List.eq_nil_of_length_eq_zero h0;subst hx;clear aa HP HL au;have hn:=fun w=>Lib.run_eql_slice_nil (P:=Tryz.prog) w
  go_enter Tryz.func97,Tryz.ntmps97
  go_wp2
  go_ret;exact⟨_,rfl,⟨World.ownsRow_nil _ _ _ _,by simp⟩,Qg _ _⟩
 have af:Below w.heap.size w (w.alloc (.cells #[] 3)):=(Qg _ _).alloc (Qi _) _;have av:Z0 (w.alloc (.cells #[] 3)) (Lt (w.alloc (.cells #[] 3)).heap.size) xs (.slice (some ad) xs.length cap):=Z8.below (E:=ZA) ⟨_,_,rs,rfl,ak,by simp only[maxLen];omega,au.out,Ws.2 HP.out⟩ af af.size;have HV:=hid av;have HB:=hid af;have hn:=fun w=>Lib.run_eql_slice_nil (P:=Tryz.prog) w
 clear aa HP HL au av ah af;go_enter Tryz.func97,Tryz.ntmps97
 go_wp2_with (at_builtin;refine zEg rfl (.tmp 5) (.tmp 6) rfl w.heap.size _ [] xs rfl (QG w) _ _ _ _ rfl HV.out (by simp;omega) (by simp) ?_;intro v' w' ag ay _)
 go_ret;exact⟨_,rfl,ag,HB.out.trans ay⟩
theorem XM (w:World) (o:Obj):Below w.heap.size w (w.alloc o):=(Qg _ _).alloc (Qi _) _
theorem zN5:(Tryz.prog.info? 25).map (fun i=>(i.zero,i.size,i.bytes))=some (some (.slice none 0 0),1,24):=by kernel_rfl
def Yf (b:Nat) (w:World) (v:Value) (k:Nat):Prop:=b<=k/\k<w.heap.size/\some k≠v.ownBlock
def Yg (w:World) (b:Nat) (xss:List (List Int)) (v:Value):Prop:=∃cs,w.ownsRow b 25 1 v xss.length cs/\ZG (XK ZA) w (Yf b w v) xss cs
abbrev Ql (w:World) (S:Nat->Prop) (xss:List (List Int)) (v:Value):Prop:=Z8 (XK ZA) w S xss v
theorem Wi (S:Nat->Prop) (w:World):Zr S w w:=fun _ _=>rfl
theorem Yg.rows {w:World} {b:Nat} {xss:List (List Int)} {v:Value} (h:Yg w b xss v):Ql w (fun k=>b<=k/\k<w.heap.size) xss v:=by
 obtain⟨cs,h1,h2⟩:=h;exact Z8.of_own (E:=XK ZA) h1 (fun k hk=>⟨(h1.lt k hk).1,(h1.lt k hk).2⟩) (h2.keep (Wi _ _) (fun k hk=>⟨hk.1,hk.2.1⟩))
theorem Yg.rowsLt {w:World} {b:Nat} {xss:List (List Int)} {v:Value} (h:Yg w b xss v):Ql w (Lt w.heap.size) xss v:=h.rows.keep (Wi _ _) (fun k hk=>hk.2)
theorem Yg.nil (w:World) (b:Nat):Yg w b [] (.slice none 0 0):=⟨[],World.ownsRow_nil _ _ _ _,rfl⟩
theorem Yg.below {w w':World} {b:Nat} {xss:List (List Int)} {v:Value} (h:Yg w b xss v) (hb:Below w.heap.size w w'):Yg w' b xss v:=by
 obtain⟨cs,h1,h2⟩:=h;exact⟨cs,QF _ h1 hb,h2.keep (S:=Yf b w v) (fun p hp=>hb.cell hp.2.1) (fun k hk=>⟨hk.1,Qk hk.2.1 hb.size,hk.2.2⟩)⟩
theorem Yg.own_lt {w:World} {b:Nat} {xss:List (List Int)} {v:Value} (h:Yg w b xss v):∀k,v.ownBlock=some k->b<=k/\k<w.heap.size:=by
 obtain⟨cs,h1,_⟩:=h;exact fun k hk=>h1.lt k hk
theorem Yg.base {w:World} {b b':Nat} {xss:List (List Int)} {v:Value} (h:Yg w b xss v) (hb:b'<=b):Yg w b' xss v:=by
 obtain⟨cs,h1,h2⟩:=h;refine⟨cs,⟨h1.1,?_⟩,h2.keep (Wi _ _) (fun k hk=>⟨Qf hb hk.1,hk.2⟩)⟩;rcases h1.2 with h|⟨g,cap,aa,e,hg,r⟩
 ·exact .inl h
 exact .inr ⟨g,cap,aa,e,Qf hb hg,r⟩
theorem YH.base {w:World} {b b':Nat} {xs:List Int} {v:Value} (h:YH w b xs v) (hb:b'<=b):YH w b' xs v:=by
 refine⟨⟨h.1.1,?_⟩,h.2⟩;rcases h.1.2 with h|⟨g,cap,aa,e,hg,r⟩
 ·exact .inl h
 exact .inr ⟨g,cap,aa,e,Qf hb hg,r⟩
theorem zFd {w w':World} {v:Value} {g:Nat} {xs:List Int} {u:Value} (h:Z0 w (fun k=>k=g) xs u) (hg:w.grownBy w' v.ownBlock) (h1:g<w.heap.size) (h2:some g≠v.ownBlock):Z0 w' (fun _=>True) xs u :=
 h.keep (S:=fun k=>k=g) (fun p hp=>World.cell?_of_block (hg.block p.block (by rw[hp];exact h1) (by rw[hp];exact h2))) (fun _ _=>trivial)
theorem Yg.fresh {w w2:World} {b b2:Nat} {xss yss:List (List Int)} {v v2:Value} (h:Yg w b xss v) (h2:Yg w2 b2 yss v2) (hb:b<=b2) (hw:w.heap.size<=b2):Ql w2 (Yf b w2 v) yss v2 :=
 h2.rows.keep (Wi _ _) (fun k hk=>⟨Qf hb hk.1,hk.2,fun e=>by have:=(h.own_lt k e.symm).2;omega⟩)
theorem zNs {w2:World} {b b2:Nat} {xs:List Int} {v u:Value} (hu:YH w2 b2 xs u) (hb:b<=b2) (hv:∀k,v.ownBlock=some k->k<b2) (h2:b2<=w2.heap.size) (g:Nat) (hg:g=w2.heap.size) (e:TypeId) :
  Ql (w2.alloc (.cells #[u] e)) (Yf b (w2.alloc (.cells #[u] e)) v) [xs] (.slice (some ⟨g,0,none⟩) 1 1):=by
 subst hg;have hi:Z0 (w2.alloc (.cells #[u] e)) (Yf b (w2.alloc (.cells #[u] e)) v) xs u :=
  (hu.ints (S:=fun k=>b2<=k/\k<w2.heap.size) (fun k h1 h2=>⟨h1,h2⟩)).keep (fun p hp=>(XM _ _).cell hp.2)
   (fun k hk=>⟨Qf hb hk.1,by simp;omega,fun e=>by have:=hv k e.symm;omega⟩)
 refine⟨_,_,[u],rfl,Qi _,by simp[maxLen],fun _=>⟨w2.heap.size,0,rfl,⟨by omega,by simp,fun e=>by have:=hv _ e.symm;omega⟩,fun j x hx=>?_⟩,ZG.single (E:=XK ZA) ⟨u,rfl,hi⟩⟩;rw[Nat.zero_add,World.cell?_alloc_new];simpa using hx
section
variable {w:World} {b:Nat} {xss yss:List (List Int)} {v:Value}
theorem zI6 {w':World} {v':Value} {A:Option Addr} {m c:Nat} {cs rs:List Value} (h1:w.ownsRow b 25 1 v xss.length cs) (h2:ZG (XK ZA) w (Yf b w v) xss cs) (aa:ZG (XK ZA) w (Yf b w v) yss rs)
  (h3:w'.ownsRow b 25 1 v' (xss.length+yss.length) (cs++rs)) (h4:w.grownBy w' v.ownBlock) (h5:v'.ownBlock=v.ownBlock\/v'.ownBlock=some w.heap.size):Yg w' b (xss++yss) v':=by
 refine⟨cs++rs,by rw[List.length_append];exact h3,?_⟩;refine(h2.append aa).keep (S:=Yf b w v) (fun p hp=>World.cell?_of_block (h4.block p.block hp.2.1 hp.2.2)) (fun k hk=>⟨hk.1,Qk hk.2.1 h4.size,?_⟩);rcases h5 with h5|h5
 ·rw[h5];exact hk.2.2
 rw[h5];intro e;injection e with e;have:=hk.2.1;omega
theorem zOa {ops:Array Oper} {rest:List Oper} {o:Oper} {a:Act} {Q:Exit->Act->World->Prop} (ay:o.guard=none) (s x:Operand)
  (ho:o.op=.call { callee:=.builtin .append,args:=#[s,x],argTypes:=#[93,93] })
  (b:Nat) (v:Value) (xss yss:List (List Int)) (hs:a.eval s=v) (aa:Yg w b xss v) (A:Option Addr) (m c:Nat) (hx:a.eval x=.slice A m c) (hr:Ql w (Yf b w v) yss (.slice A m c))
  (ag:xss.length+yss.length<=1000000000) (hb:b<=w.heap.size)
  (h:∀v' w',Yg w' b (xss++yss) v'->Below b w w'->wpList Tryz.prog ops Q rest (a.put o.dst v') w'):wpList Tryz.prog ops Q (o::rest) a w:=by
 obtain⟨i0,ax,ak,aj,ah⟩:=info_parts zN5;obtain⟨A',cap',rs,e,h1,h2,au,af⟩:=hr;injection e with e1 e2 e3
 subst e1 e2 e3;obtain⟨cs,ae,av⟩:=aa;have hl:=af.len;refine TF w ay s x 93 ho b 25 i0 _ 1 24 Tryz.underlying93 ax ak aj ah rfl (by omega) v _ _ hs ae _ A _ c rs hx hl au af.one (by simp only[maxLen];omega) (by omega) hb ?_;intro v' w' h3 h4 h5;exact h v' w' (zI6 (A:=A) (m:=0) (c:=0) ae av af h3 h4 h5) (Un _ ae h4 hb)
theorem zJ2 {ops:Array Oper} {o:Oper} {a:Act} {K:Act->World->Prop} {Q:Exit->Act->World->Prop} {E:Prop} (ay:o.guard=none) (s x:Operand)
  (ho:o.op=.call { callee:=.builtin .append,args:=#[s,x],argTypes:=#[93,93] })
  (b:Nat) (v:Value) (xss yss:List (List Int)) (hs:a.eval s=v) (aa:Yg w b xss v) (A:Option Addr) (m c:Nat) (hx:a.eval x=.slice A m c) (hr:Ql w (Yf b w v) yss (.slice A m c))
  (ag:xss.length+yss.length<=1000000000) (hb:b<=w.heap.size)
  (h:∀v' w',Yg w' b (xss++yss) v'->Below b w w'->K (a.put o.dst v') w') :
  if Region.wanted o (yielded ops a.tmps)=true then Oper.wp Tryz.prog o a w K Q else E:=by
 obtain⟨i0,ax,ak,aj,ah⟩:=info_parts zN5;obtain⟨A',cap',rs,e,h1,h2,au,af⟩:=hr;injection e with e1 e2 e3
 subst e1 e2 e3;obtain⟨cs,ae,av⟩:=aa;have hl:=af.len;refine zC6 w ay s x 93 ho b 25 i0 _ 1 24 Tryz.underlying93 ax ak aj ah rfl (by omega) v _ _ hs ae _ A _ c rs hx hl au af.one (by simp only[maxLen];omega) (by omega) hb ?_;intro v' w' h3 h4 h5;exact h v' w' (zI6 (A:=A) (m:=0) (c:=0) ae av af h3 h4 h5) (Un _ ae h4 hb)
theorem zBl {ops:Array Oper} {o:Oper} {a:Act} {K:Act->World->Prop} {Q:Exit->Act->World->Prop} {E:Prop} (av:o.guard=none) (s x:Operand)
  (ho:o.op=.call { callee:=.builtin .append,args:=#[s,x],argTypes:=#[25,25] })
  (b:Nat) (v:Value) (xs ys:List Int) (hs:a.eval s=v) (aa:YH w b xs v) (S:Nat->Prop) (A:Option Addr) (m c:Nat) (hx:a.eval x=.slice A m c) (hr:Z0 w S ys (.slice A m c))
  (af:xs.length+ys.length<=1000000000) (hb:b<=w.heap.size)
  (h:∀v' w',YH w' b (xs++ys) v'->Below b w w'->w.grownBy w' v.ownBlock->K (a.put o.dst v') w') :
  if Region.wanted o (yielded ops a.tmps)=true then Oper.wp Tryz.prog o a w K Q else E:=by
 obtain⟨i0,au,aj,ah,ag⟩:=info_parts zH8;obtain⟨A',cap',rs,e,h1,h2,ak,ae⟩:=hr;injection e with e1 e2 e3
 subst e1 e2 e3;have hl:=ae.len;have hp:=(Ws.1 ae);refine zC6 w av s x 25 ho b 3 i0 _ 1 8 Tryz.underlying25 au aj ah ag rfl (by omega) v _ _ hs aa.1 S A _ c rs hx hl ak ae.one (by simp only[maxLen];omega) (by omega) hb ?_;intro v' w' h3 h4 h5;refine h v' w' ⟨?_,?_⟩ (Un _ aa.1 h4 hb) h4
 ·rw[List.length_append,List.map_append,<-hp.1];exact h3
 intro y hy;rcases List.mem_append.1 hy with hy|hy
 ·exact aa.2 y hy
 exact hp.2 y hy
end
def Wn (W:World) (g o:Nat) (t:Z9) (v:Value):Prop :=
 W.cell? ⟨g,o,none⟩=some (.int .i64 t.kind)/\W.cell? ⟨g,o+1,none⟩=some (.string t.text)/\W.cell? ⟨g,o+2,none⟩=some (.int .i64 t.cols)/\W.cell? ⟨g,o+3,none⟩=some v
def Zk (t:Z9):Prop:=Z4 t.kind/\Z4 t.cols/\t.text.size<=maxLen
abbrev YD:=Nat×Nat×Z9
def TG (w0 W:World) (S:Nat->Prop) (x:YD):Prop :=
 S x.1/\(∃a,x.2.1=a*4)/\Zk x.2.2/\∃v,Wn W x.1 x.2.1 x.2.2 v/\Z8 Z6 w0 (Lt w0.heap.size) x.2.2.kids v
inductive Ww (W:World) (S:Nat->Prop) (P:YD->Prop):Nat->Nat->Z9->Prop
 |pend (g o:Nat) (t:Z9):P (g,o,t)->Ww W S P g o t
 |done (g o:Nat) (t:Z9) (g' cap:Nat) (A:Option Addr):S g->(∃a,o=a*4)->Zk t->Wn W g o t (.slice A t.kids.length cap)->t.kids.length<=cap->cap<=maxLen ->
  (0<t.kids.length->A=some ⟨g',0,none⟩/\S g')->(∀(i:Nat) (h:i<t.kids.length),Ww W S P g' (i*4) t.kids[i])->Ww W S P g o t
theorem Wn.keep {W W':World} {g o:Nat} {t:Z9} {v:Value} (h:Wn W g o t v) (hk:∀j,j<4->W'.cell? ⟨g,o+j,none⟩=W.cell? ⟨g,o+j,none⟩):Wn W' g o t v:=by
 have e0:=hk 0 (by omega);simp only[Nat.add_zero] at e0;exact⟨e0.trans h.1,(hk 1 (by omega)).trans h.2.1,(hk 2 (by omega)).trans h.2.2.1,(hk 3 (by omega)).trans h.2.2.2⟩
theorem Ww.step {w0 W W':World} {S S':Nat->Prop} {P P':YD->Prop} {g o g' cap':Nat} {t:Z9} {A':Option Addr} (hp:TG w0 W S (g,o,t)) (hP:∀x,P x->x=(g,o,t)\/P' x) (hS:∀k,S k->S' k) (h0:∀k,S k->w0.heap.size<=k)
  (hk:∀q:Addr,S q.block->q≠⟨g,o+3,none⟩->W'.cell? q=W.cell? q) (hc:W'.cell? ⟨g,o+3,none⟩=some (.slice A' t.kids.length cap')) (ak:t.kids.length<=cap') (af:cap'<=maxLen) (hA:0<t.kids.length->A'=some ⟨g',0,none⟩/\S' g')
  (ag:∀(i:Nat) (h:i<t.kids.length),P' (g',i*4,t.kids[i])) {gr orr:Nat} {tr:Z9} (h:Ww W S P gr orr tr):Ww W' S' P' gr orr tr:=by
 obtain⟨hg,⟨a,ha⟩,au,v,hn,hv⟩:=hp;simp only at hg ha au hn hv;have ae:∀g1 o1 b,S g1->o1=b*4->¬(g1=g/\o1=o)->∀j,j<4->W'.cell? ⟨g1,o1+j,none⟩=W.cell? ⟨g1,o1+j,none⟩:=fun g1 o1 b hs hb av j hj=>hk ⟨g1,o1+j,none⟩ hs (fun e=>by
  injection e with e1 e2
  exact av ⟨e1,by omega⟩)
 have aa:∀j,j<3->W'.cell? ⟨g,o+j,none⟩=W.cell? ⟨g,o+j,none⟩:=fun j hj=>hk ⟨g,o+j,none⟩ hg (fun e=>by injection e with _ e2;omega)
 have aj:=aa 0 (by omega);simp only[Nat.add_zero] at aj;have ax:Wn W' g o t (.slice A' t.kids.length cap'):=⟨aj.trans hn.1,(aa 1 (by omega)).trans hn.2.1,(aa 2 (by omega)).trans hn.2.2.1,hc⟩;induction h with
 |
  pend g1 o1 t1 h1 =>
  rcases hP _ h1 with e|h2
  ·cases e;exact .done _ _ _ g' cap' A' (hS _ hg) ⟨a,ha⟩ au ax ak af hA (fun i hi=>.pend _ _ _ (ag i hi))
  exact .pend _ _ _ h2
 |
  done g1 o1 t1 g2 cap1 A1 h1 h2 h3 h4 h5 h6 h7 h8 ih =>
  obtain⟨b,hb⟩:=h2;by_cases he:g1=g/\o1=o
  ·obtain⟨rfl,rfl⟩:=he;have ev:v=.slice A1 t1.kids.length cap1:=by
    have:=h4.2.2.2;rw[hn.2.2.2] at this;exact Option.some.inj this
   subst ev;obtain⟨A2,c2,cs,e2,hc1,hc2,hr,hl⟩:=hv;injection e2 with e3 e4 e5
   have hz:t1.kids.length=0:=by
    rcases Nat.eq_zero_or_pos t1.kids.length with hz|hz
    ·exact hz
    exfalso;obtain⟨aA,az⟩:=h7 hz;have ah:=hl.len;obtain⟨gg,oo,e6,ay,_⟩:=hr (by rw[ah,<-e4];simp[Z6];omega);rw[<-e3,aA] at e6;cases e6;have:=h0 _ az;have:g2<w0.heap.size:=ay;omega
   have k0:W'.cell? ⟨g1,o1+3,none⟩=some (.slice A' t1.kids.length cap'):=by rw[e4];exact hc
   refine .done _ _ _ g' cap' A' (hS _ hg) ⟨b,hb⟩ h3 ⟨aj.trans h4.1,(aa 1 (by omega)).trans h4.2.1,(aa 2 (by omega)).trans h4.2.2.1,k0⟩ (by omega) af (fun h=>by omega) (fun i hi=>by omega)
  exact .done _ _ _ g2 cap1 A1 (hS _ h1) ⟨b,hb⟩ h3 (h4.keep (ae g1 o1 b h1 hb he)) h5 h6 (fun h=>⟨(h7 h).1,hS _ (h7 h).2⟩) ih
theorem Ww.keep {W W':World} {S S':Nat->Prop} {P P':YD->Prop} (hS:∀k,S k->S' k) (hk:∀q:Addr,S q.block->W'.cell? q=W.cell? q) (hP:∀x,P x->P' x) {g o:Nat} {t:Z9} (h:Ww W S P g o t):Ww W' S' P' g o t:=by
 induction h with
 |pend g1 o1 t1 h1=>exact .pend _ _ _ (hP _ h1)
 |done g1 o1 t1 g2 cap1 A1 h1 h2 h3 h4 h5 h6 h7 h8 ih=>exact .done _ _ _ g2 cap1 A1 (hS _ h1) h2 h3 (h4.keep fun j _=>hk ⟨g1,o1+j,none⟩ h1) h5 h6 (fun h=>⟨(h7 h).1,hS _ (h7 h).2⟩) ih
theorem TG.keep {w0 W W':World} {S S':Nat->Prop} {x:YD} (h:TG w0 W S x) (hS:∀k,S k->S' k) (hk:∀j,j<4->W'.cell? ⟨x.1,x.2.1+j,none⟩=W.cell? ⟨x.1,x.2.1+j,none⟩):TG w0 W' S' x:=by
 obtain⟨h1,h2,h3,v,h4,h5⟩:=h;exact⟨hS _ h1,h2,h3,v,h4.keep hk,h5⟩
theorem TG.other {w0 W W':World} {S S':Nat->Prop} {x:YD} {g o:Nat} (h:TG w0 W S x) (ho:∃a,o=a*4) (aa:¬(x.1=g/\x.2.1=o)) (hS:∀k,S k->S' k) (hk:∀q:Addr,S q.block->q≠⟨g,o+3,none⟩->W'.cell? q=W.cell? q):TG w0 W' S' x:=by
 obtain⟨b,hb⟩:=h.2.1;obtain⟨a,ha⟩:=ho;refine h.keep hS fun j hj=>hk ⟨x.1,x.2.1+j,none⟩ h.1 (fun e=>?_)
 injection e with e1 e2
 exact aa ⟨e1,by omega⟩
theorem zKk {W:World} {S:Nat->Prop} {g:Nat} (hS:S g):∀(ts:List Z9) (aa:Nat),(∀(i:Nat) (h:i<ts.length),∃v,Wn W g (aa+i*4) ts[i] v/\Zk ts[i]/\Z8 Z6 W S ts[i].kids v) ->
  ∃cs,ZG Z6 W S ts cs/\∀j u,cs[j]?=some u->W.cell? ⟨g,aa+j,none⟩=some u
 |[],aa,_=>⟨[],rfl,fun j u h=>by simp at h⟩
 |
  t::ts,aa,h=>by
  obtain⟨v,hn,ae,hv⟩:=h 0 (by simp);simp only[Nat.zero_mul,Nat.add_zero,List.getElem_cons_zero] at hn ae hv;obtain⟨cs,hl,hc⟩:=zKk hS ts (aa+4) (fun i hi=>by
   obtain⟨u,h1,h2,h3⟩:=h (i+1) (by simpa using hi);rw[show aa+(i+1)*4=aa+4+i*4 by omega] at h1;exact⟨u,by simpa using h1,by simpa using h2,by simpa using h3⟩)
  refine⟨[.int .i64 t.kind,.string t.text,.int .i64 t.cols,v]++cs,⟨_,cs,rfl,Yl.2 ⟨v,rfl,ae.1,ae.2.1,ae.2.2,hv⟩,hl⟩,fun j u hu=>?_⟩
  match j,hu with
  |0,hu=>cases hu;exact hn.1
  |1,hu=>cases hu;exact hn.2.1
  |2,hu=>cases hu;exact hn.2.2.1
  |3,hu=>cases hu;exact hn.2.2.2
  |
   j+4,hu =>
   have:=hc j u (by simpa using hu);rw[show aa+(j+4)=aa+4+j by omega];exact this
theorem Ww.reads {W:World} {S:Nat->Prop} {P:YD->Prop} (hP:∀x,¬P x) {g o:Nat} {t:Z9} (h:Ww W S P g o t):∃v,Wn W g o t v/\Zk t/\Z8 Z6 W S t.kids v:=by
 induction h with
 |pend g1 o1 t1 h1=>exact absurd h1 (hP _)
 |
  done g1 o1 t1 g2 cap1 A1 h1 h2 h3 h4 h5 h6 h7 h8 ih =>
  refine⟨_,h4,h3,?_⟩;rcases Nat.eq_zero_or_pos t1.kids.length with hz|hz
  ·have e:t1.kids=[]:=List.eq_nil_of_length_eq_zero hz;exact⟨A1,cap1,[],rfl,h5,h6,Zd.nil_,by rw[e];rfl⟩
  obtain⟨rfl,aa⟩:=h7 hz;obtain⟨cs,hl,hc⟩:=zKk aa t1.kids 0 (fun i hi=>by
   obtain⟨v,a,b,c⟩:=ih i hi;exact⟨v,by rwa[Nat.zero_add],b,c⟩)
  exact⟨_,cap1,cs,rfl,h5,h6,fun _=>⟨g2,0,rfl,aa,hc⟩,hl⟩
section
variable {α:Type} (E:YA α) {t e:TypeId} (ht:Tryz.prog.underlying t=some (.slice e)) (hs:∀w,(Go.sizeOf e).run Tryz.prog w=.ok E.size w)
include ht hs
theorem TM (A:Option Addr) (n c:Nat) (l:Int) (k:Nat) (hk:l=k) (hl:k<=n) :
  ∃
   A',(∀w,(Instr.slice t (.slice A n c) (some (.int .i64 l)) none none).run Tryz.prog w=.ok (.slice A' (n-k) (c-k)) w) /\
   (∀w S (xs:List α),Z8 E w S xs (.slice A n c)->Z8 E w S (xs.drop k) (.slice A' (n-k) (c-k))):=by
 subst hk;have he:Tryz.prog.elem t=e:=by simp[Program.elem,ht]
 refine⟨if c=k then A else A.map (·.add (k*E.size)),fun w=>?_,fun w S xs h=>?_⟩
 ·rw[run_slice_l w t A n c (by rw[he];exact ht) .i64 k (by omega) (by omega),he,hs w];simp[Result.andThen,sliced]
 have hx:xs.length=n:=by obtain⟨A',cap,cs,e,_⟩:=h;injection e with _ e2;exact e2.symm
 have:=h.cut k n hl (Qi _);rwa[List.take_of_length_le (by omega)] at this
theorem RV (A:Option Addr) (n c:Nat) (l:Int) (k:Nat) (hk:l=k) (hl:k<=n) (hc:n<=c) :
  ∃
   A',(∀w,(Instr.slice t (.slice A n c) none (some (.int .i64 l)) none).run Tryz.prog w=.ok (.slice A' k c) w) /\
   (∀w S (xs:List α),Z8 E w S xs (.slice A n c)->Z8 E w S (xs.take k) (.slice A' k c)):=by
 subst hk;have he:Tryz.prog.elem t=e:=by simp[Program.elem,ht]
 refine⟨if c=0 then A else A.map (·.add (0*E.size)),fun w=>?_,fun w S xs h=>?_⟩
 ·rw[run_slice_h w t A n c (by rw[he];exact ht) .i64 k (by omega) (by omega),he,hs w];simp[Result.andThen,sliced]
 have:=h.cut 0 k (Qj _) hl;simpa using this
theorem Qt (A:Option Addr) (n c:Nat) (l h:Int) (i j:Nat) (hi:l=i) (hj:h=j) (hl:i<=j) (hh:j<=n) (hc:n<=c) :
  ∃
   A',(∀w,(Instr.slice t (.slice A n c) (some (.int .i64 l)) (some (.int .i64 h)) none).run Tryz.prog w=.ok (.slice A' (j-i) (c-i)) w) /\
   (∀w S (xs:List α),Z8 E w S xs (.slice A n c)->Z8 E w S ((xs.take j).drop i) (.slice A' (j-i) (c-i))):=by
 subst hi hj;have he:Tryz.prog.elem t=e:=by simp[Program.elem,ht]
 refine⟨if c=i then A else A.map (·.add (i*E.size)),fun w=>?_,fun w S xs h=>h.cut i j hl hh⟩;rw[run_slice_lh w t A n c (by rw[he];exact ht) .i64 .i64 i j (by omega) (by omega) (by omega),he,hs w];simp[Result.andThen,sliced]
end
theorem WO (w:World):(Go.sizeOf 3).run Tryz.prog w=.ok ZA.size w:=by kernel_rfl
theorem Vw (w:World):(Go.sizeOf 24).run Tryz.prog w=.ok Z6.size w:=by kernel_rfl
theorem Z9.ind {P:Z9->Prop} (h:∀t:Z9,(∀k∈t.kids,P k)->P t):∀t,P t:=by
 intro t;have:∀(n:Nat) (t:Z9),SizeOf.sizeOf t<=n->P t:=by
  intro n;induction n with
  |zero=>intro t ht;cases t;simp at ht
  |
   succ n ih =>
   intro t ht;refine h t fun k hk=>ih k ?_
   cases t with
   |
    mk a b c ts =>
    have:=List.sizeOf_lt_of_mem (show k∈ts from hk);simp at ht;omega
 exact this _ t (Qi _)
mutual
def Wq:Z9->Int->Int
 |.mk _ _ _ ts,m=>Xm ts (m-1)
def Xm:List Z9->Int->Int
 |[],m=>m
 |t::ts,m=>if 0<=m then Xm ts (Wq t m) else m
end
mutual
theorem zN2:(t:Z9)->(m:Int)->0<=m->-1<=Wq t m/\Wq t m<=m-1
 |
  .mk _ _ _ ts,m,h=>by
  unfold Wq
  exact zLl ts (m-1) (by omega)
theorem zLl:(ts:List Z9)->(m:Int)->-1<=m->-1<=Xm ts m/\Xm ts m<=m
 |[],m,h=>by simp[Xm];exact h
 |
  t::ts,m,h=>by
  unfold Xm
  split
  ·have h1:=zN2 t m (by omega)
   have h2:=zLl ts (Wq t m) h1.1
   omega
  omega
end
theorem UX (t:Z9):∀(w:World) (v:Value) (m:Int) (_:Z8 Z6 w (Lt w.heap.size) t.kids v) (_:0<=m) (_:m<=1000000),
  Calls Tryz.prog 51 #[.agg #[.int .i64 t.kind,.string t.text,.int .i64 t.cols,v],.int .i64 m] w fun e w'=>e=.returned (.int .i64 (Wq t m))/\Below w.heap.size w w':=by
 induction t using Z9.ind with
 |h t ih =>
 obtain⟨tk,tx,tc,ts⟩:=t;intro w v m hv hm0 hm1;simp only[Z9.kind,Z9.text,Z9.cols,Z9.kids] at *;obtain⟨A,cap,rs,rfl,aB,aj,av,ax⟩:=hv;unfold maxLen at aj;have aA:ts.length<=9223372036854775807:=by omega
 have H:Hid (Zd w (Lt w.heap.size) A rs/\ZG Z6 w (Lt w.heap.size) ts rs):=⟨av,ax⟩;clear av ax;go_enter Tryz.func51,Tryz.ntmps51
 go_wp2
 go_loopw [1,5] (fun m' i wr=>Below w.heap.size w wr/\wr.cell? ⟨w.heap.size,3,none⟩=some (.slice A ts.length cap)/\w.heap.size<wr.heap.size/\∃(k:Nat) (n:Int),k<=ts.length/\i=.int .i64 k/\m'=.int .i64 n/\-1<=n/\n<=1000000/\Xm (ts.drop k) n=Xm ts (m-1)) (fun _ i _=>ts.length-(intOf i).toNat)
 case atStart=>exact⟨(Qg _ _).alloc (Qi _) _,World.cell?_alloc_new _ _ _ _,by simp,0,m-1,Qj _,rfl,rfl,by omega,by omega,rfl⟩
 obtain⟨hb,hs,hz,k,n,hk,rfl,rfl,hn0,hn1,aa⟩:=hrel;have HR:Hid (Xm (ts.drop k) n=Xm ts (m-1)):=aa;clear aa;by_cases ag:k<ts.length
 ·by_cases hn:0<=n
  ·obtain⟨g,o,A',cap',ay,rfl,hg,c0,c1,c2,c3,_,_,_,aD,aC,ae,af⟩:=YW (H.out.1.keep (Zr.of_below hb (Qi _)) (Lt.mono hb.size)) (H.out.2.keep (Zr.of_below hb (Qi _)) (Lt.mono hb.size)) ag;have ah:ts[k]∈ts:=List.getElem_mem ag;have hbd:=zN2 ts[k] n hn;have au:Z8 Z6 wr (Lt wr.heap.size) ts[k].kids (.slice A' ts[k].kids.length cap'):=⟨A',cap',ay,rfl,aD,aC,ae,af⟩
   go_wp2_with fail
   refine(ih ts[k] ah wr _ n au hn (by omega)).mono ?_;rintro e w1 ⟨rfl,ak⟩;have az:w1.cell? ⟨w.heap.size,3,none⟩=some (.slice (some ⟨g,o,none⟩) ts.length cap):=((bcell ak).1 _ _ hz).trans hs;clear au ae af c0 c1 c2 c3 hs
   go_wp2_with fail
   go_roundw
   case rel=>exact⟨hb.trans (ak.mono hb.size),az,by have:=ak.size;omega,k+1,_,by omega,by go_num,rfl,by omega,by omega,by rw[<-HR.out,List.drop_eq_getElem_cons ag,Xm,if_pos hn]⟩
   case measure=>simp[intOf];omega
  have hd:Xm (ts.drop k) n=n:=by rw[List.drop_eq_getElem_cons ag,Xm,if_neg hn]
  have HD:=hid (HR.out.symm.trans hd);clear hd
  go_wp2_with fail
  go_ret;exact⟨by rw[Wq,HD.out];rfl,hb⟩
 have hd:Xm (ts.drop k) n=n:=by rw[List.drop_of_length_le (by omega),Xm]
 have HD:=hid (HR.out.symm.trans hd);clear hd
 go_wp2_with fail
 go_ret;exact⟨by rw[Wq,HD.out];rfl,hb⟩
def X4 (t:Z9) (m:Int):Bool:=decide (0<=Wq t m)
theorem zQi (t:Z9) (w:World) (v:Value) (m:Int) (hv:Z8 Z6 w (Lt w.heap.size) t.kids v) (h0:0<=m) (h1:m<=1000000) :
  Calls Tryz.prog 19 #[.agg #[.int .i64 t.kind,.string t.text,.int .i64 t.cols,v],.int .i64 m] w fun e w'=>e=.returned (.bool (X4 t m))/\Below w.heap.size w w':=by
 have aa:Below w.heap.size w (w.alloc (.cells #[.int .i64 t.kind,.string t.text,.int .i64 t.cols,v] 24)):=(Qg _ _).alloc (Qi _) _;have ae:=hv.below aa aa.size;go_enter Tryz.func19,Tryz.ntmps19
 go_wp2_with fail
 refine(UX t _ v m ae h0 h1).mono ?_;rintro e w1 ⟨rfl,af⟩
 go_wp2_with fail
 go_ret;exact⟨rfl,aa.trans (af.mono (by simp))⟩
mutual
def ZR:Z9->Nat
 |.mk _ _ _ ts=>1+ZQ ts
def ZQ:List Z9->Nat
 |[]=>0
 |t::ts=>ZR t+ZQ ts
end
mutual
def Y4:Z9->Nat
 |.mk _ _ _ ts=>YI ts+1
def YI:List Z9->Nat
 |[]=>0
 |t::ts=>max (Y4 t) (YI ts)
end
theorem SC (xs ys:List Z9):ZQ (xs++ys)=ZQ xs+ZQ ys:=by
 induction xs with
 |nil=>simp[ZQ]
 |cons x xs ih=>simp[ZQ,ih];omega
theorem zFm (xs ys:List Z9):YI (xs++ys)=max (YI xs) (YI ys):=by
 induction xs with
 |nil=>simp[YI]
 |cons x xs ih=>simp only[YI,ih,List.cons_append];omega
theorem WV {ts:List Z9} {k:Nat} (h:k<ts.length):ZQ (ts.take (k+1))=ZQ (ts.take k)+ZR ts[k]:=by
 rw[List.take_succ_eq_append_getElem h,SC];simp[ZQ]
theorem zL2 {ts:List Z9} {k:Nat} (h:k<ts.length):YI (ts.take (k+1))=max (YI (ts.take k)) (Y4 ts[k]):=by
 rw[List.take_succ_eq_append_getElem h,zFm];simp[YI]
theorem Xx (ts:List Z9) (k:Nat):ZQ (ts.take k)<=ZQ ts:=by
 conv=>rhs;rw[<-List.take_append_drop k ts,SC]
 omega
mutual
theorem zDl:(t:Z9)->Y4 t<=ZR t
 |.mk _ _ _ ts=>by unfold Y4 ZR;have:=zDs ts;omega
theorem zDs:(ts:List Z9)->YI ts<=ZQ ts
 |[]=>by simp[YI]
 |t::ts=>by unfold YI ZQ;have:=zDl t;have:=zDs ts;omega
end
theorem zQo (t:Z9):∀(w:World) (v:Value) (_:Z8 Z6 w (Lt w.heap.size) t.kids v) (_:ZR t<=1000000000),
  Calls Tryz.prog 61 #[.agg #[.int .i64 t.kind,.string t.text,.int .i64 t.cols,v]] w fun e w'=>e=.returned (.int .i64 (ZR t))/\Below w.heap.size w w':=by
 induction t using Z9.ind with
 |h t ih =>
 obtain⟨tk,tx,tc,ts⟩:=t;intro w v hv hm;simp only[Z9.kind,Z9.text,Z9.cols,Z9.kids] at *;obtain⟨A,cap,rs,rfl,aB,ag,av,ax⟩:=hv;unfold maxLen at ag;have aA:ts.length<=9223372036854775807:=by omega
 have H:Hid (Zd w (Lt w.heap.size) A rs/\ZG Z6 w (Lt w.heap.size) ts rs):=⟨av,ax⟩;have HC:Hid (ZR (.mk tk tx tc ts)=1+ZQ ts):=by show _=_;rw[ZR]
 rw[HC.out] at hm;clear av ax;go_enter Tryz.func61,Tryz.ntmps61
 go_wp2
 go_loopw [3,4] (fun o i wr=>Below w.heap.size w wr/\wr.cell? ⟨w.heap.size,3,none⟩=some (.slice A ts.length cap)/\w.heap.size<wr.heap.size/\∃(k:Nat),k<=ts.length/\i=.int .i64 k/\o=.int .i64 ((1+ZQ (ts.take k):Nat):Int)) (fun _ i _=>ts.length-(intOf i).toNat)
 case atStart=>exact⟨(Qg _ _).alloc (Qi _) _,World.cell?_alloc_new _ _ _ _,by simp,0,Qj _,rfl,rfl⟩
 obtain⟨hb,hs,hz,k,hk,rfl,rfl⟩:=hrel;have hle:=Xx ts k;by_cases ah:k<ts.length
 ·obtain⟨g,o,A',cap',ay,rfl,hg,c0,c1,c2,c3,_,_,_,aD,aC,aa,ae⟩:=YW (H.out.1.keep (Zr.of_below hb (Qi _)) (Lt.mono hb.size)) (H.out.2.keep (Zr.of_below hb (Qi _)) (Lt.mono hb.size)) ah;have af:ts[k]∈ts:=List.getElem_mem ah;have aj:=Xx ts (k+1);have HT:=hid (WV ah);rw[HT.out] at aj;have au:Z8 Z6 wr (Lt wr.heap.size) ts[k].kids (.slice A' ts[k].kids.length cap'):=⟨A',cap',ay,rfl,aD,aC,aa,ae⟩
  go_wp2_with fail
  refine(ih ts[k] af wr _ au (by omega)).mono ?_;rintro e w1 ⟨rfl,ak⟩;have az:w1.cell? ⟨w.heap.size,3,none⟩=some (.slice (some ⟨g,o,none⟩) ts.length cap):=((bcell ak).1 _ _ hz).trans hs;clear au aa ae c0 c1 c2 c3 hs
  go_wp2_with fail
  go_roundw
  case rel=>exact⟨hb.trans (ak.mono hb.size),az,by have:=ak.size;omega,k+1,by omega,by go_num,by rw[HT.out];go_num⟩
  case measure=>simp[intOf];omega
 have HT:Hid (ts.take k=ts):=List.take_of_length_le (by omega);rw[HT.out];have HB:=hid hb;clear hb
 go_wp2_with fail
 go_ret;exact⟨by rw[HC.out];rfl,HB.out⟩
theorem zQn (t:Z9):∀(w:World) (v:Value) (_:Z8 Z6 w (Lt w.heap.size) t.kids v) (_:ZR t<=1000000000),
  Calls Tryz.prog 62 #[.agg #[.int .i64 t.kind,.string t.text,.int .i64 t.cols,v]] w fun e w'=>e=.returned (.int .i64 (Y4 t))/\Below w.heap.size w w':=by
 induction t using Z9.ind with
 |h t ih =>
 obtain⟨tk,tx,tc,ts⟩:=t;intro w v hv hm;simp only[Z9.kind,Z9.text,Z9.cols,Z9.kids] at *;obtain⟨A,cap,rs,rfl,aF,aj,ax,ay⟩:=hv;unfold maxLen at aj;have aA:ts.length<=9223372036854775807:=by omega
 have H:Hid (Zd w (Lt w.heap.size) A rs/\ZG Z6 w (Lt w.heap.size) ts rs):=⟨ax,ay⟩;have HC:Hid (Y4 (.mk tk tx tc ts)=YI ts+1):=by show _=_;rw[Y4]
 have hcs:ZQ ts<=1000000000:=by rw[ZR] at hm;omega
 clear ax ay hm;go_enter Tryz.func62,Tryz.ntmps62
 go_wp2
 go_loopw [3,4] (fun o i wr=>Below w.heap.size w wr/\wr.cell? ⟨w.heap.size,3,none⟩=some (.slice A ts.length cap)/\w.heap.size<wr.heap.size/\∃(k:Nat),k<=ts.length/\i=.int .i64 k/\o=.int .i64 ((YI (ts.take k):Nat):Int)) (fun _ i _=>ts.length-(intOf i).toNat)
 case atStart=>exact⟨(Qg _ _).alloc (Qi _) _,World.cell?_alloc_new _ _ _ _,by simp,0,Qj _,rfl,rfl⟩
 obtain⟨hb,hs,hz,k,hk,rfl,rfl⟩:=hrel;have hle:=Xx ts k;have aB:=zDs (ts.take k);by_cases ag:k<ts.length
 ·obtain⟨g,o,A',cap',az,rfl,hg,c0,c1,c2,c3,_,_,_,aH,aG,aa,ae⟩:=YW (H.out.1.keep (Zr.of_below hb (Qi _)) (Lt.mono hb.size)) (H.out.2.keep (Zr.of_below hb (Qi _)) (Lt.mono hb.size)) ag;have ah:ts[k]∈ts:=List.getElem_mem ag;have ak:=Xx ts (k+1);have aD:=WV ag;have HT:=hid (zL2 ag);have aC:ZR ts[k]<=1000000000:=by omega
  have hdk:=zDl ts[k];have au:Z8 Z6 wr (Lt wr.heap.size) ts[k].kids (.slice A' ts[k].kids.length cap'):=⟨A',cap',az,rfl,aH,aG,aa,ae⟩;clear aD ak
  go_wp2_with fail
  refine(ih ts[k] ah wr _ au aC).mono ?_;rintro e w1 ⟨rfl,af⟩;have av:w1.cell? ⟨w.heap.size,3,none⟩=some (.slice (some ⟨g,o,none⟩) ts.length cap):=((bcell af).1 _ _ hz).trans hs;clear au aa ae c0 c1 c2 c3 hs;rcases Nat.lt_or_ge (YI (ts.take k)) (Y4 ts[k]) with hd|hd
  ·have HM:Hid (max (YI (ts.take k)) (Y4 ts[k])=Y4 ts[k]):=by show _=_;omega
   go_wp2_with fail
   go_roundw
   case rel=>exact⟨hb.trans (af.mono hb.size),av,by have:=af.size;omega,k+1,by omega,by go_num,by first|(rw[HT.out,HM.out];done)|(rw[HT.out];have h9:=HM.out;simp only[Value.int.injEq,true_and];omega)⟩
   case measure=>simp[intOf];omega
  have HM:Hid (max (YI (ts.take k)) (Y4 ts[k])=YI (ts.take k)):=by show _=_;omega
  go_wp2_with fail
  go_roundw
  case rel=>exact⟨hb.trans (af.mono hb.size),av,by have:=af.size;omega,k+1,by omega,by go_num,by first|(rw[HT.out,HM.out];done)|(rw[HT.out];have h9:=HM.out;simp only[Value.int.injEq,true_and];omega)⟩
  case measure=>simp[intOf];omega
 have HT:Hid (ts.take k=ts):=List.take_of_length_le (by omega);rw[HT.out];have HB:=hid hb;rw[HT.out] at aB;clear hb
 go_wp2_with fail
 go_ret;exact⟨by rw[HC.out];first|rfl|(simp;done),HB.out⟩
def ZX:List Int->List Int->Int
 |[],[]=>0
 |[],_::_=>-1
 |_::_,[]=>1
 |a::l,b::r=>if a<b then -1 else if b<a then 1 else ZX l r
theorem zIn (xs ys:List Int) (w:World) (a b:Value) (B B':Nat->Prop) (ha:Z0 w B xs a) (hb:Z0 w B' ys b) :
  Calls Tryz.prog 50 #[a,b] w fun e w'=>e=.returned (.int .i64 (ZX xs ys))/\∃n,w'=w.drewN n:=by
 obtain⟨A,cap,rs,rfl,ax,ah,ak,au⟩:=ha;obtain⟨A',cap',aj,rfl,av,af,ae,ag⟩:=hb;unfold maxLen at ah af;have hl1:xs.length<=9223372036854775807:=by omega
 have hl2:ys.length<=9223372036854775807:=by omega
 have H:Hid ((Zd w B A rs/\ZG ZA w B xs rs)/\(Zd w B' A' aj/\ZG ZA w B' ys aj)):=⟨⟨ak,au⟩,⟨ae,ag⟩⟩;clear ak au ae ag;go_enter Tryz.func50,Tryz.ntmps50
 go_wp2
 go_loopw [5] (fun i wr=>(∃n,wr=w.drewN n)/\∃(k:Nat),k<=xs.length/\k<=ys.length/\i=.int .i64 k/\ZX (xs.drop k) (ys.drop k)=ZX xs ys) (fun i _=>xs.length-(intOf i).toNat)
 case atStart=>exact⟨⟨0,rfl⟩,0,Qj _,Qj _,rfl,rfl⟩
 obtain⟨⟨n,rfl⟩,k,hk,hk',rfl,aa⟩:=hrel;have HR:=hid aa;clear aa;by_cases hx:k<xs.length
 ·by_cases hy:k<ys.length
  ·obtain⟨g,o,rfl,hg,hi,c0⟩:=X5 H.out.1.1 H.out.1.2 hx;obtain⟨g',o',rfl,hg',hi',c0'⟩:=X5 H.out.2.1 H.out.2.2 hy;have i1:(k:Int)<(xs.length:Int):=by omega
   have i2:(k:Int)<(ys.length:Int):=by omega
   by_cases h1:xs[k]<ys[k]
   ·have HF:Hid (ZX (xs.drop k) (ys.drop k)=-1):=by show _=_;rw[List.drop_eq_getElem_cons hx,List.drop_eq_getElem_cons hy,ZX,if_pos h1]
    go_wp2
    go_quiet (fail)
    go_wp2
    go_ret;exact⟨by rw[<-HR.out,HF.out];rfl,by first|exact⟨_,rfl⟩|(simp only[World.drewN_drewN];exact⟨_,rfl⟩)⟩
   by_cases h2:ys[k]<xs[k]
   ·have HF:Hid (ZX (xs.drop k) (ys.drop k)=1):=by show _=_;rw[List.drop_eq_getElem_cons hx,List.drop_eq_getElem_cons hy,ZX,if_neg h1,if_pos h2]
    have hd:decide (xs[k]<ys[k])=false:=by simpa using h1
    go_wp2
    go_quiet (fail)
    go_wp2
    go_quiet (fail)
    go_wp2
    go_ret;exact⟨by rw[<-HR.out,HF.out];rfl,by first|exact⟨_,rfl⟩|(simp only[World.drewN_drewN];exact⟨_,rfl⟩)⟩
   have HF:Hid (ZX (xs.drop k) (ys.drop k)=ZX (xs.drop (k+1)) (ys.drop (k+1))):=by show _=_;rw[List.drop_eq_getElem_cons hx,List.drop_eq_getElem_cons hy,ZX,if_neg h1,if_neg h2]
   have hd:decide (xs[k]<ys[k])=false:=by simpa using h1
   have hd2:decide (ys[k]<xs[k])=false:=by simpa using h2
   go_wp2
   go_quiet (fail)
   go_wp2
   go_quiet (fail)
   go_wp2
   go_roundw
   case rel=>exact⟨by first|exact⟨_,rfl⟩|(simp only[World.drewN_drewN];exact⟨_,rfl⟩),k+1,by omega,by omega,by go_num,by rw[<-HR.out,HF.out]⟩
   case measure=>simp[intOf];omega
  have HF:Hid (ZX (xs.drop k) (ys.drop k)=1):=by show _=_;rw[List.drop_eq_getElem_cons hx,List.drop_of_length_le (show ys.length<=k by omega),ZX]
  have hlt:ys.length<xs.length:=by omega
  have hle:¬xs.length<ys.length:=by omega
  have e1:decide ((xs.length:Int)<(ys.length:Int))=false:=by simp;omega
  have e2:decide ((ys.length:Int)<(xs.length:Int))=true:=by simp;omega
  go_wp2
  go_ret;exact⟨by rw[<-HR.out,HF.out];rfl,by first|exact⟨_,rfl⟩|(simp only[World.drewN_drewN];exact⟨_,rfl⟩)⟩
 have HF:Hid (ZX (xs.drop k) (ys.drop k)=if k<ys.length then -1 else 0):=by
  show _=_;rw[List.drop_of_length_le (show xs.length<=k by omega)];split
  ·rename_i h;rw[List.drop_eq_getElem_cons h,ZX]
  rename_i h;rw[List.drop_of_length_le (by omega),ZX]
 by_cases hy:k<ys.length
 ·rw[if_pos hy] at HF
  go_wp2
  go_ret;exact⟨by rw[<-HR.out,HF.out];rfl,by first|exact⟨_,rfl⟩|(simp only[World.drewN_drewN];exact⟨_,rfl⟩)⟩
 rw[if_neg hy] at HF
 go_wp2
 go_ret;exact⟨by rw[<-HR.out,HF.out];rfl,by first|exact⟨_,rfl⟩|(simp only[World.drewN_drewN];exact⟨_,rfl⟩)⟩
theorem zE8:∀xs ys:List Int,ZX xs ys=0↔xs=ys
 |[],[]=>by simp[ZX]
 |[],_::_=>by simp[ZX]
 |_::_,[]=>by simp[ZX]
 |
  a::l,b::r=>by
  have ih:=zE8 l r;unfold ZX;split
  ·simp;intro h;omega
  split
  ·simp;intro h;omega
  rw[ih,List.cons.injEq];constructor
  ·intro h;exact⟨by omega,h⟩
  intro h;exact h.2
theorem zPl (xs ys:List Int) (w:World) (a b:Value) (B B':Nat->Prop) (ha:Z0 w B xs a) (hb:Z0 w B' ys b) :
  Calls Tryz.prog 18 #[a,b] w fun e w'=>e=.returned (.bool (decide (ZX xs ys=0)))/\∃n,w'=w.drewN n:=by
 by_cases h:ZX xs ys=0
 ·have e1:(ZX xs ys==0)=true:=by simpa using h
  have hd:decide (ZX xs ys=0)=true:=by simpa using h
  rw[hd];clear h hd;go_enter Tryz.func18,Tryz.ntmps18
  go_wp2_with fail
  refine(zIn xs ys w a b B B' ha hb).mono ?_;rintro e w1 ⟨rfl,aa⟩
  go_wp2_with fail
  go_ret;exact⟨rfl,aa⟩
 have e1:(ZX xs ys==0)=false:=by simpa using h
 have hd:decide (ZX xs ys=0)=false:=by simpa using h
 rw[hd];clear h hd;go_enter Tryz.func18,Tryz.ntmps18
 go_wp2_with fail
 refine(zIn xs ys w a b B B' ha hb).mono ?_;rintro e w1 ⟨rfl,aa⟩
 go_wp2_with fail
 go_ret;exact⟨rfl,aa⟩
theorem zS7 (xs ys:List Int) (w:World) (a b:Value) (B B':Nat->Prop) (ha:Z0 w B xs a) (hb:Z0 w B' ys b) :
  Calls Tryz.prog 120 #[a,b] w fun e w'=>e=.returned (.bool (decide (xs=ys)))/\∃n,w'=w.drewN n:=by
 obtain⟨A,cap,rs,rfl,ay,aj,au,av⟩:=ha;obtain⟨A',cap',ak,rfl,ax,ag,af,ah⟩:=hb;unfold maxLen at aj ag;have hl1:xs.length<=9223372036854775807:=by omega
 have hl2:ys.length<=9223372036854775807:=by omega
 have H:Hid ((Zd w B A rs/\ZG ZA w B xs rs)/\(Zd w B' A' ak/\ZG ZA w B' ys ak)):=⟨⟨au,av⟩,⟨af,ah⟩⟩;clear au av af ah;by_cases aa:xs.length=ys.length
 ·have e0:((xs.length:Int) != (ys.length:Int))=false:=by rw[aa];simp
  have HL:=hid aa;clear aa;go_enter Tryz.func120,Tryz.ntmps120
  go_wp2
  go_loopw [13] (fun i wr=>(∃n,wr=w.drewN n)/\∃(k:Nat),k<=xs.length/\i=.int .i64 k/\decide (xs.drop k=ys.drop k)=decide (xs=ys)) (fun i _=>xs.length-(intOf i).toNat)
  case atStart=>exact⟨⟨0,rfl⟩,0,Qj _,rfl,rfl⟩
  obtain⟨⟨n,rfl⟩,k,hk,rfl,ae⟩:=hrel;have HR:=hid ae;clear ae;by_cases hx:k<xs.length
  ·have hy:k<ys.length:=by have:=HL.out;omega
   obtain⟨g,o,rfl,hg,hi,c0⟩:=X5 H.out.1.1 H.out.1.2 hx;obtain⟨g',o',rfl,hg',hi',c0'⟩:=X5 H.out.2.1 H.out.2.2 hy;have i1:(k:Int)<(xs.length:Int):=by omega
   have i2:(k:Int)<(ys.length:Int):=by omega
   by_cases h1:xs[k]=ys[k]
   ·have HF:Hid (decide (xs.drop (k+1)=ys.drop (k+1))=decide (xs.drop k=ys.drop k)):=by show _=_;rw[List.drop_eq_getElem_cons hx,List.drop_eq_getElem_cons hy];simp only[List.cons.injEq,h1,true_and]
    have hd:(xs[k] != ys[k])=false:=by simpa using h1
    clear h1
    go_wp2
    go_quiet (fail)
    go_wp2
    go_roundw
    case rel=>exact⟨by first|exact⟨_,rfl⟩|(simp only[World.drewN_drewN];exact⟨_,rfl⟩),k+1,by omega,by go_num,by rw[<-HR.out,HF.out]⟩
    case measure=>simp[intOf];omega
   have HF:Hid (decide (xs.drop k=ys.drop k)=false):=by show _=_;rw[List.drop_eq_getElem_cons hx,List.drop_eq_getElem_cons hy];exact decide_eq_false (fun h=>h1 (List.cons.inj h).1)
   have hd:(xs[k] != ys[k])=true:=by simpa using h1
   clear h1
   go_wp2
   go_quiet (fail)
   go_wp2
   go_ret;exact⟨by rw[<-HR.out,HF.out];rfl,by first|exact⟨_,rfl⟩|(simp only[World.drewN_drewN];exact⟨_,rfl⟩)⟩
  have HF:Hid (decide (xs.drop k=ys.drop k)=true):=by
   have:=HL.out;show _=_;rw[List.drop_of_length_le (by omega),List.drop_of_length_le (by omega)];simp
  go_wp2
  go_ret;exact⟨by rw[<-HR.out,HF.out];rfl,by first|exact⟨_,rfl⟩|(simp only[World.drewN_drewN];exact⟨_,rfl⟩)⟩
 have e0:((xs.length:Int) != (ys.length:Int))=true:=by simp;omega
 have HF:Hid (decide (xs=ys)=false):=by show _=_;simp;intro h;exact aa (by rw[h])
 clear aa;go_enter Tryz.func120,Tryz.ntmps120
 go_wp2
 go_ret;exact⟨by rw[HF.out];rfl,0,rfl⟩
def Yq (p:List Int):Int:=if p.length=1 then p.headD 0 else p.headD 0+1
theorem zN7 (x:Int) (g o m cap:Nat) (w:World) (a0:w.cell? ⟨g,o,none⟩=some (.int .i64 x)) (hgl:g<w.heap.size) (m2:0<m) (hml:m<=9223372036854775807) (hx:0<=x/\x<=1000000) :
  Calls Tryz.prog 160 #[.slice (some ⟨g,o,none⟩) m cap] w fun e w'=>e=.returned (.agg #[.int .i64 x,.int .i64 (if m=1 then x else x+1)])/\Below w.heap.size w w':=by
 have m0:(0:Int)<(m:Int):=by omega
 obtain⟨hx0,hx1⟩:=hx;by_cases h1:m=1
 ·have d1:((m:Int)==1)=true:=by rw[h1];rfl
  rw[if_pos h1];clear h1;go_enter Tryz.func160,Tryz.ntmps160
  go_wp2_with fail
  go_region
  all_goals
   go_wp2_with fail
   exact bodyPost_ret (v:=.agg #[.int .i64 x,.int .i64 x]) (by simp[results,Tryz.results160,go_sem]) rfl ⟨rfl,((Qg _ _).alloc (Qi _) _).drew⟩
 have d1:((m:Int)==1)=false:=by rw[beq_eq_false_iff_ne];omega
 rw[if_neg h1];clear h1;have wd:IntKind.i64.wrap (x+1)=x+1:=IntWalk.i64_in _ (by omega);go_enter Tryz.func160,Tryz.ntmps160
 go_wp2_with fail
 go_region
 all_goals
  go_wp2_with fail
  exact bodyPost_ret (v:=.agg #[.int .i64 x,.int .i64 (x+1)]) (by simp[results,Tryz.results160,go_sem]) rfl ⟨rfl,((Qg _ _).alloc (Qi _) _).drew⟩
