/- T -/
import Derived.Test.YthpngeboknmllaaGreatQa77a
import Derived.Deep.QuietTactic
import Derived.BigQuiet
import Derived.RegionTactic
import Derived.OwnWalk
import Derived.Lib.AppendZerosOnto
import Derived.Lib.AppendZeros
import Derived.BigRegion
import Derived.IntWalk
set_option linter.unusedVariables false
set_option linter.unusedSimpArgs false
set_option maxHeartbeats 1000000
set_option maxRecDepth 100000
namespace Go.Proofs.YthpngeboknmllaaGreat
open Go.RowKit
def ZP:List Int->List Int->Int
 |[],[]=>0
 |[],_::_=>-1
 |_::_,[]=>1
 |a::l,b::r=>if a<b then -1 else if b<a then 1 else ZP l r
theorem zIn (xs ys:List Int) (w:World) (a b:Value) (B B':Nat->Prop) (ha:Z0 w B xs a) (hb:Z0 w B' ys b) :
  Calls Tryz.prog 50 #[a,b] w fun e w'=>e=.returned (.int .i64 (ZP xs ys))/\∃n,w'=w.drewN n:=by
 obtain⟨A,cap,rs,rfl,av,ah,aj,ak⟩:=ha;obtain⟨A',cap',ai,rfl,au,af,ae,ag⟩:=hb;unfold maxLen at ah af;have hl1:xs.length<=9223372036854775807:=by omega
 have hl2:ys.length<=9223372036854775807:=by omega
 have H:Hid ((Zl w B A rs/\ZK ZF w B xs rs)/\(Zl w B' A' ai/\ZK ZF w B' ys ai)):=⟨⟨aj,ak⟩,⟨ae,ag⟩⟩;clear aj ak ae ag;go_enter Tryz.func50,Tryz.ntmps50
 go_wp2
 go_loopw [5] (fun i wr=>(∃n,wr=w.drewN n)/\∃(k:Nat),k<=xs.length/\k<=ys.length/\i=.int .i64 k/\ZP (xs.drop k) (ys.drop k)=ZP xs ys) (fun i _=>xs.length-(intOf i).toNat)
 case atStart=>exact⟨⟨0,rfl⟩,0,QU _,QU _,rfl,rfl⟩
 obtain⟨⟨n,rfl⟩,k,hk,hk',rfl,aa⟩:=hrel;have HR:=hid aa;clear aa;by_cases hx:k<xs.length
 ·by_cases hy:k<ys.length
  ·obtain⟨g,o,rfl,hg,hi,c0⟩:=YG H.out.1.1 H.out.1.2 hx;obtain⟨g',o',rfl,hg',hi',c0'⟩:=YG H.out.2.1 H.out.2.2 hy;have i1:(k:Int)<(xs.length:Int):=by omega
   have i2:(k:Int)<(ys.length:Int):=by omega
   by_cases h1:xs[k]<ys[k]
   ·have HF:Hid (ZP (xs.drop k) (ys.drop k)=-1):=by show _=_;rw[List.drop_eq_getElem_cons hx,List.drop_eq_getElem_cons hy,ZP,if_pos h1]
    go_wp2
    go_quiet (fail)
    go_wp2
    go_ret;exact⟨by rw[<-HR.out,HF.out];rfl,by first|exact⟨_,rfl⟩|(simp only[World.drewN_drewN];exact⟨_,rfl⟩)⟩
   by_cases h2:ys[k]<xs[k]
   ·have HF:Hid (ZP (xs.drop k) (ys.drop k)=1):=by show _=_;rw[List.drop_eq_getElem_cons hx,List.drop_eq_getElem_cons hy,ZP,if_neg h1,if_pos h2]
    have hd:decide (xs[k]<ys[k])=false:=by simpa using h1
    go_wp2
    go_quiet (fail)
    go_wp2
    go_quiet (fail)
    go_wp2
    go_ret;exact⟨by rw[<-HR.out,HF.out];rfl,by first|exact⟨_,rfl⟩|(simp only[World.drewN_drewN];exact⟨_,rfl⟩)⟩
   have HF:Hid (ZP (xs.drop k) (ys.drop k)=ZP (xs.drop (k+1)) (ys.drop (k+1))):=by show _=_;rw[List.drop_eq_getElem_cons hx,List.drop_eq_getElem_cons hy,ZP,if_neg h1,if_neg h2]
   have hd:decide (xs[k]<ys[k])=false:=by simpa using h1
   have hd2:decide (ys[k]<xs[k])=false:=by simpa using h2
   go_wp2
   go_quiet (fail)
   go_wp2
   go_quiet (fail)
   go_wp2
   go_roundw
   case rel=>exact⟨by first|exact⟨_,rfl⟩|(simp only[World.drewN_drewN];exact⟨_,rfl⟩),k+1,by omega,by omega,by go_num,by rw[<-HR.out,HF.out]⟩
   case measure=>simp[intOf];omega
  have HF:Hid (ZP (xs.drop k) (ys.drop k)=1):=by show _=_;rw[List.drop_eq_getElem_cons hx,List.drop_of_length_le (show ys.length<=k by omega),ZP]
  have hlt:ys.length<xs.length:=by omega
  have hle:¬xs.length<ys.length:=by omega
  have e1:decide ((xs.length:Int)<(ys.length:Int))=false:=by simp;omega
  have e2:decide ((ys.length:Int)<(xs.length:Int))=true:=by simp;omega
  go_wp2
  go_ret;exact⟨by rw[<-HR.out,HF.out];rfl,by first|exact⟨_,rfl⟩|(simp only[World.drewN_drewN];exact⟨_,rfl⟩)⟩
 have HF:Hid (ZP (xs.drop k) (ys.drop k)=if k<ys.length then -1 else 0):=by
  show _=_;rw[List.drop_of_length_le (show xs.length<=k by omega)];split
  ·rename_i h;rw[List.drop_eq_getElem_cons h,ZP]
  rename_i h;rw[List.drop_of_length_le (by omega),ZP]
 by_cases hy:k<ys.length
 ·rw[if_pos hy] at HF
  go_wp2
  go_ret;exact⟨by rw[<-HR.out,HF.out];rfl,by first|exact⟨_,rfl⟩|(simp only[World.drewN_drewN];exact⟨_,rfl⟩)⟩
 rw[if_neg hy] at HF
 go_wp2
 go_ret;exact⟨by rw[<-HR.out,HF.out];rfl,by first|exact⟨_,rfl⟩|(simp only[World.drewN_drewN];exact⟨_,rfl⟩)⟩
theorem zE8:∀xs ys:List Int,ZP xs ys=0↔xs=ys
 |[],[]=>by simp[ZP]
 |[],_::_=>by simp[ZP]
 |_::_,[]=>by simp[ZP]
 |
  a::l,b::r=>by
  have ih:=zE8 l r;unfold ZP;split
  ·simp;intro h;omega
  split
  ·simp;intro h;omega
  rw[ih,List.cons.injEq];constructor
  ·intro h;exact⟨by omega,h⟩
  intro h;exact h.2
theorem zPl (xs ys:List Int) (w:World) (a b:Value) (B B':Nat->Prop) (ha:Z0 w B xs a) (hb:Z0 w B' ys b) :
  Calls Tryz.prog 18 #[a,b] w fun e w'=>e=.returned (.bool (decide (ZP xs ys=0)))/\∃n,w'=w.drewN n:=by
 by_cases h:ZP xs ys=0
 ·have e1:(ZP xs ys==0)=true:=by simpa using h
  have hd:decide (ZP xs ys=0)=true:=by simpa using h
  rw[hd];clear h hd;go_enter Tryz.func18,Tryz.ntmps18
  go_wp2_with fail
  refine(zIn xs ys w a b B B' ha hb).mono ?_;rintro e w1 ⟨rfl,aa⟩
  go_wp2_with fail
  go_ret;exact⟨rfl,aa⟩
 have e1:(ZP xs ys==0)=false:=by simpa using h
 have hd:decide (ZP xs ys=0)=false:=by simpa using h
 rw[hd];clear h hd;go_enter Tryz.func18,Tryz.ntmps18
 go_wp2_with fail
 refine(zIn xs ys w a b B B' ha hb).mono ?_;rintro e w1 ⟨rfl,aa⟩
 go_wp2_with fail
 go_ret;exact⟨rfl,aa⟩
theorem zS7 (xs ys:List Int) (w:World) (a b:Value) (B B':Nat->Prop) (ha:Z0 w B xs a) (hb:Z0 w B' ys b) :
  Calls Tryz.prog 120 #[a,b] w fun e w'=>e=.returned (.bool (decide (xs=ys)))/\∃n,w'=w.drewN n:=by
 obtain⟨A,cap,rs,rfl,ax,ai,ak,au⟩:=ha;obtain⟨A',cap',aj,rfl,av,ag,af,ah⟩:=hb;unfold maxLen at ai ag;have hl1:xs.length<=9223372036854775807:=by omega
 have hl2:ys.length<=9223372036854775807:=by omega
 have H:Hid ((Zl w B A rs/\ZK ZF w B xs rs)/\(Zl w B' A' aj/\ZK ZF w B' ys aj)):=⟨⟨ak,au⟩,⟨af,ah⟩⟩;clear ak au af ah;by_cases aa:xs.length=ys.length
 ·have e0:((xs.length:Int) != (ys.length:Int))=false:=by rw[aa];simp
  have HL:=hid aa;clear aa;go_enter Tryz.func120,Tryz.ntmps120
  go_wp2
  go_loopw [13] (fun i wr=>(∃n,wr=w.drewN n)/\∃(k:Nat),k<=xs.length/\i=.int .i64 k/\decide (xs.drop k=ys.drop k)=decide (xs=ys)) (fun i _=>xs.length-(intOf i).toNat)
  case atStart=>exact⟨⟨0,rfl⟩,0,QU _,rfl,rfl⟩
  obtain⟨⟨n,rfl⟩,k,hk,rfl,ae⟩:=hrel;have HR:=hid ae;clear ae;by_cases hx:k<xs.length
  ·have hy:k<ys.length:=by have:=HL.out;omega
   obtain⟨g,o,rfl,hg,hi,c0⟩:=YG H.out.1.1 H.out.1.2 hx;obtain⟨g',o',rfl,hg',hi',c0'⟩:=YG H.out.2.1 H.out.2.2 hy;have i1:(k:Int)<(xs.length:Int):=by omega
   have i2:(k:Int)<(ys.length:Int):=by omega
   by_cases h1:xs[k]=ys[k]
   ·have HF:Hid (decide (xs.drop (k+1)=ys.drop (k+1))=decide (xs.drop k=ys.drop k)):=by show _=_;rw[List.drop_eq_getElem_cons hx,List.drop_eq_getElem_cons hy];simp only[List.cons.injEq,h1,true_and]
    have hd:(xs[k] != ys[k])=false:=by simpa using h1
    clear h1
    go_wp2
    go_quiet (fail)
    go_wp2
    go_roundw
    case rel=>exact⟨by first|exact⟨_,rfl⟩|(simp only[World.drewN_drewN];exact⟨_,rfl⟩),k+1,by omega,by go_num,by rw[<-HR.out,HF.out]⟩
    case measure=>simp[intOf];omega
   have HF:Hid (decide (xs.drop k=ys.drop k)=false):=by show _=_;rw[List.drop_eq_getElem_cons hx,List.drop_eq_getElem_cons hy];exact decide_eq_false (fun h=>h1 (List.cons.inj h).1)
   have hd:(xs[k] != ys[k])=true:=by simpa using h1
   clear h1
   go_wp2
   go_quiet (fail)
   go_wp2
   go_ret;exact⟨by rw[<-HR.out,HF.out];rfl,by first|exact⟨_,rfl⟩|(simp only[World.drewN_drewN];exact⟨_,rfl⟩)⟩
  have HF:Hid (decide (xs.drop k=ys.drop k)=true):=by
   have:=HL.out;show _=_;rw[List.drop_of_length_le (by omega),List.drop_of_length_le (by omega)];simp
  go_wp2
  go_ret;exact⟨by rw[<-HR.out,HF.out];rfl,by first|exact⟨_,rfl⟩|(simp only[World.drewN_drewN];exact⟨_,rfl⟩)⟩
 have e0:((xs.length:Int) != (ys.length:Int))=true:=by simp;omega
 have HF:Hid (decide (xs=ys)=false):=by show _=_;simp;intro h;exact aa (by rw[h])
 clear aa;go_enter Tryz.func120,Tryz.ntmps120
 go_wp2
 go_ret;exact⟨by rw[HF.out];rfl,0,rfl⟩
section
variable {α:Type} (E:YW α) {t e:TypeId} (ht:Tryz.prog.underlying t=some (.slice e)) (hs:∀w,(Go.sizeOf e).run Tryz.prog w=.ok E.size w)
include ht hs
theorem Wn (A:Option Addr) (n c:Nat) (l:Int) (k:Nat) (hk:l=k) (hl:k<=n) :
  ∃
   A',(∀w,(Instr.slice t (.slice A n c) (some (.int .i64 l)) none none).run Tryz.prog w=.ok (.slice A' (n-k) (c-k)) w) /\
   (∀w S (xs:List α),Z8 E w S xs (.slice A n c)->Z8 E w S (xs.drop k) (.slice A' (n-k) (c-k))):=by
 subst hk;have he:Tryz.prog.elem t=e:=by simp[Program.elem,ht]
 refine⟨if c=k then A else A.map (·.add (k*E.size)),fun w=>?_,fun w S xs h=>?_⟩
 ·rw[run_slice_l w t A n c (by rw[he];exact ht) .i64 k (by omega) (by omega),he,hs w];simp[Result.andThen,sliced]
 have hx:xs.length=n:=by obtain⟨A',cap,cs,e,_⟩:=h;injection e with _ e2;exact e2.symm
 have:=h.cut k n hl (QT _);rwa[List.take_of_length_le (by omega)] at this
theorem UJ (A:Option Addr) (n c:Nat) (l:Int) (k:Nat) (hk:l=k) (hl:k<=n) (hc:n<=c) :
  ∃
   A',(∀w,(Instr.slice t (.slice A n c) none (some (.int .i64 l)) none).run Tryz.prog w=.ok (.slice A' k c) w) /\
   (∀w S (xs:List α),Z8 E w S xs (.slice A n c)->Z8 E w S (xs.take k) (.slice A' k c)):=by
 subst hk;have he:Tryz.prog.elem t=e:=by simp[Program.elem,ht]
 refine⟨if c=0 then A else A.map (·.add (0*E.size)),fun w=>?_,fun w S xs h=>?_⟩
 ·rw[run_slice_h w t A n c (by rw[he];exact ht) .i64 k (by omega) (by omega),he,hs w];simp[Result.andThen,sliced]
 have:=h.cut 0 k (QU _) hl;simpa using this
theorem RZ (A:Option Addr) (n c:Nat) (l h:Int) (i j:Nat) (hi:l=i) (hj:h=j) (hl:i<=j) (hh:j<=n) (hc:n<=c) :
  ∃
   A',(∀w,(Instr.slice t (.slice A n c) (some (.int .i64 l)) (some (.int .i64 h)) none).run Tryz.prog w=.ok (.slice A' (j-i) (c-i)) w) /\
   (∀w S (xs:List α),Z8 E w S xs (.slice A n c)->Z8 E w S ((xs.take j).drop i) (.slice A' (j-i) (c-i))):=by
 subst hi hj;have he:Tryz.prog.elem t=e:=by simp[Program.elem,ht]
 refine⟨if c=i then A else A.map (·.add (i*E.size)),fun w=>?_,fun w S xs h=>h.cut i j hl hh⟩;rw[run_slice_lh w t A n c (by rw[he];exact ht) .i64 .i64 i j (by omega) (by omega) (by omega),he,hs w];simp[Result.andThen,sliced]
end
theorem XA (w:World):(Go.sizeOf 3).run Tryz.prog w=.ok ZF.size w:=by kernel_rfl
theorem VZ (w:World):(Go.sizeOf 24).run Tryz.prog w=.ok Z7.size w:=by kernel_rfl
section
variable {P:Program} (w:World)
theorem zGl (base:Nat) (t ty e:TypeId) (i:TypeInfo) (size:Nat) (ht:P.underlying t=some (.slice e)) (hi:P.info? e=some i)
  (v:Value) (n:Nat) (xs:List Value) (aa:w.ownsRow base e size v n xs) (c:Nat):(Builtin.append_ #[t,t] ty #[v,.slice none 0 c]).run P w=.ok v w:=by
 rcases aa.2 with ⟨rfl,rfl⟩|⟨g,cap,cur,rfl,_,_,ae,_⟩
 ·simp[Builtin.append_,run_underlying ht,sizeOf,typeInfo,hi,Builtin.lenOf,Builtin.firstCells]
 simp[Builtin.append_,run_underlying ht,sizeOf,typeInfo,hi,Builtin.lenOf,Builtin.firstCells,ae,storeCells]
theorem zI1 (base:Nat) (t ty e:TypeId) (i:TypeInfo) (z:Value) (size bytes:Nat) (ht:P.underlying t=some (.slice e)) (hi:P.info? e=some i) (hz:i.zero=some z)
  (ag:i.size=size) (au:i.bytes=bytes) (ak:z.cells.size=size) (aj:0<size)
  (v:Value) (n:Nat) (xs:List Value) (ae:w.ownsRow base e size v n xs)
  (B:Nat->Prop) (A:Option Addr) (m c:Nat) (aa:List Value) (hl:aa.length=m*size) (hr:Zl w B A aa) (h1:∀u∈aa,u.oneCell'=true)
  (av:n+m<=maxLen) (af:(n+m)*bytes<=140737488355328) (ah:base<=w.heap.size) :
  ∃
   v' w',(Builtin.append_ #[t,t] ty #[v,.slice A m c]).run P w=.ok v' w'/\w'.ownsRow base e size v' (n+m) (xs++aa)/\w.grownBy w' v.ownBlock /\
   (v'.ownBlock=v.ownBlock\/v'.ownBlock=some w.heap.size):=by
 rcases A with _|ad
 ·have hm:m=0:=by
   rcases Nat.eq_zero_or_pos m with h0|h0
   ·exact h0
   obtain⟨ad,h⟩:=hr.some_ (by rw[hl];exact Nat.mul_pos h0 aj);cases h
  subst hm;have hn:aa=[]:=List.eq_nil_of_length_eq_zero (by simpa using hl);subst hn;exact⟨v,w,zGl w base t ty e i size ht hi v n xs ae c,by simpa using ae,World.grownBy.refl w _,.inl rfl⟩
 obtain⟨v',w',ai,h2,h3,_,h5⟩:=run_append_own_at (P:=P) w base t ty e i z size bytes ht hi hz ag au ak aj v n xs ae ad m c aa hl (hr.add ad rfl) h1 av af ah;exact⟨v',w',ai,h2,h3,h5⟩
theorem zFx {o:Oper} {a:Act} {K:Act->World->Prop} {Q:Exit->Act->World->Prop} (s x:Operand) (t:TypeId)
  (ho:o.op=.call { callee:=.builtin .append,args:=#[s,x],argTypes:=#[t,t] })
  (base:Nat) (e:TypeId) (i:TypeInfo) (z:Value) (size bytes:Nat) (ht:P.underlying t=some (.slice e)) (hi:P.info? e=some i) (hz:i.zero=some z)
  (af:i.size=size) (au:i.bytes=bytes) (aj:z.cells.size=size) (ak:0<size)
  (v:Value) (n:Nat) (xs:List Value) (hs:a.eval s=v) (ai:w.ownsRow base e size v n xs)
  (B:Nat->Prop) (A:Option Addr) (m c:Nat) (aa:List Value) (hx:a.eval x=.slice A m c) (hl:aa.length=m*size) (hr:Zl w B A aa) (h1:∀u∈aa,u.oneCell'=true)
  (av:n+m<=maxLen) (ae:(n+m)*bytes<=140737488355328) (ag:base<=w.heap.size)
  (h:∀v' w',w'.ownsRow base e size v' (n+m) (xs++aa)->w.grownBy w' v.ownBlock->(v'.ownBlock=v.ownBlock\/v'.ownBlock=some w.heap.size)->K (a.put o.dst v') w'):o.wp P a w K Q:=by
 obtain⟨v',w',ah,h2,h3,h4⟩:=zI1 (P:=P) w base t o.type e i z size bytes ht hi hz af au aj ak v n xs ai B A m c aa hl hr h1 av ae ag;unfold Oper.wp execOp;simp only[ho,resolve,invoke,builtin,Sem.run_bind,Sem.run_pure,Result.andThen_ok,List.map_toArray,List.map_cons,List.map_nil,hs,hx,ah];exact h v' w' h2 h3 h4
theorem UG {ops:Array Oper} {rest:List Oper} {o:Oper} {a:Act} {Q:Exit->Act->World->Prop} (ak:o.guard=none) (s x:Operand) (t:TypeId)
  (ho:o.op=.call { callee:=.builtin .append,args:=#[s,x],argTypes:=#[t,t] })
  (base:Nat) (e:TypeId) (i:TypeInfo) (z:Value) (size bytes:Nat) (ht:P.underlying t=some (.slice e)) (hi:P.info? e=some i) (hz:i.zero=some z)
  (af:i.size=size) (au:i.bytes=bytes) (ai:z.cells.size=size) (aj:0<size)
  (v:Value) (n:Nat) (xs:List Value) (hs:a.eval s=v) (ah:w.ownsRow base e size v n xs)
  (B:Nat->Prop) (A:Option Addr) (m c:Nat) (aa:List Value) (hx:a.eval x=.slice A m c) (hl:aa.length=m*size) (hr:Zl w B A aa) (h1:∀u∈aa,u.oneCell'=true)
  (av:n+m<=maxLen) (ae:(n+m)*bytes<=140737488355328) (ag:base<=w.heap.size)
  (h:∀v' w',w'.ownsRow base e size v' (n+m) (xs++aa)->w.grownBy w' v.ownBlock->(v'.ownBlock=v.ownBlock\/v'.ownBlock=some w.heap.size)->wpList P ops Q rest (a.put o.dst v') w'):wpList P ops Q (o::rest) a w :=
 wpList_plain ak fun _ hK=>zFx w s x t ho base e i z size bytes ht hi hz af au ai aj v n xs hs ah B A m c aa hx hl hr h1 av ae ag fun v' w' h2 h3 h4=>hK _ _ (h v' w' h2 h3 h4)
theorem Tj {ops:Array Oper} {o:Oper} {a:Act} {K:Act->World->Prop} {Q:Exit->Act->World->Prop} {E:Prop} (ak:o.guard=none) (s x:Operand) (t:TypeId)
  (ho:o.op=.call { callee:=.builtin .append,args:=#[s,x],argTypes:=#[t,t] })
  (base:Nat) (e:TypeId) (i:TypeInfo) (z:Value) (size bytes:Nat) (ht:P.underlying t=some (.slice e)) (hi:P.info? e=some i) (hz:i.zero=some z)
  (af:i.size=size) (au:i.bytes=bytes) (ai:z.cells.size=size) (aj:0<size)
  (v:Value) (n:Nat) (xs:List Value) (hs:a.eval s=v) (ah:w.ownsRow base e size v n xs)
  (B:Nat->Prop) (A:Option Addr) (m c:Nat) (aa:List Value) (hx:a.eval x=.slice A m c) (hl:aa.length=m*size) (hr:Zl w B A aa) (h1:∀u∈aa,u.oneCell'=true)
  (av:n+m<=maxLen) (ae:(n+m)*bytes<=140737488355328) (ag:base<=w.heap.size)
  (h:∀v' w',w'.ownsRow base e size v' (n+m) (xs++aa)->w.grownBy w' v.ownBlock->(v'.ownBlock=v.ownBlock\/v'.ownBlock=some w.heap.size)->K (a.put o.dst v') w') :
  if Region.wanted o (yielded ops a.tmps)=true then Oper.wp P o a w K Q else E:=by
 have hw:Region.wanted o (yielded ops a.tmps)=true:=by simp[Region.wanted,ak]
 rw[if_pos hw];exact zFx w s x t ho base e i z size bytes ht hi hz af au ai aj v n xs hs ah B A m c aa hx hl hr h1 av ae ag h
theorem Si {base e size n:Nat} {v:Value} {cs:List Value} {w1:World} (h:w.ownsRow base e size v n cs) (hb:Below w.heap.size w w1):w1.ownsRow base e size v n cs :=
 h.kept (w':=w1) (row:=none) ⟨hb.os,hb.tape,hb.output,hb.size,fun k hk _=>hb.block k hk⟩ (by cases v.ownBlock<;>simp)
theorem WF {base e size n:Nat} {v:Value} {cs:List Value} {w1:World} (h:w.ownsRow base e size v n cs) (hg:w.grownBy w1 v.ownBlock) (hB:base<=w.heap.size):Below base w w1 :=
 (QQ _ _).grown hg hB (fun k hk=>(h.lt k hk).1)
end
theorem R9:(Tryz.prog.info? 3).map (fun i=>(i.zero,i.size,i.bytes))=some (some (.int .i64 0),1,8):=by kernel_rfl
def Zi (w:World) (b:Nat) (xs:List Int) (v:Value):Prop:=w.ownsRow b 3 1 v xs.length (xs.map (.int .i64 ·))/\∀x∈xs,Z4 x
theorem Zi.ints {w:World} {b:Nat} {xs:List Int} {v:Value} (h:Zi w b xs v) {S:Nat->Prop} (hB:∀k,b<=k->k<w.heap.size->S k):Z0 w S xs v :=
 Z8.of_own (E:=ZF) h.1 (fun k hk=>hB k (h.1.lt k hk).1 (h.1.lt k hk).2) (VD.2 ⟨rfl,h.2⟩)
theorem YN {w:World} {ops:Array Oper} {rest:List Oper} {o:Oper} {a:Act} {Q:Exit->Act->World->Prop} (au:o.guard=none) (s x:Operand)
  (ho:o.op=.call { callee:=.builtin .append,args:=#[s,x],argTypes:=#[25,25] })
  (b:Nat) (v:Value) (xs ys:List Int) (hs:a.eval s=v) (aa:Zi w b xs v) (S:Nat->Prop) (A:Option Addr) (m c:Nat) (hx:a.eval x=.slice A m c) (hr:Z0 w S ys (.slice A m c))
  (af:xs.length+ys.length<=1000000000) (hb:b<=w.heap.size)
  (h:∀v' w',Zi w' b (xs++ys) v'->Below b w w'->(v'.ownBlock=v.ownBlock\/v'.ownBlock=some w.heap.size)->wpList Tryz.prog ops Q rest (a.put o.dst v') w'):wpList Tryz.prog ops Q (o::rest) a w:=by
 obtain⟨i0,ak,ai,ah,ag⟩:=info_parts R9;obtain⟨A',cap',rs,e,h1,h2,aj,ae⟩:=hr;injection e with e1 e2 e3
 subst e1 e2 e3;have hl:=ae.len;have hp:=(VD.1 ae);refine UG w au s x 25 ho b 3 i0 _ 1 8 Tryz.underlying25 ak ai ah ag rfl (by omega) v _ _ hs aa.1 S A _ c rs hx hl aj ae.one (by simp only[maxLen];omega) (by omega) hb ?_;intro v' w' h3 h4 h5;refine h v' w' ⟨?_,?_⟩ (WF _ aa.1 h4 hb) h5
 ·rw[List.length_append,List.map_append,<-hp.1];exact h3
 intro y hy;rcases List.mem_append.1 hy with hy|hy
 ·exact aa.2 y hy
 exact hp.2 y hy
theorem Vz (w:World) (xs:List Int) (h:∀x∈xs,Z4 x) {S:Nat->Prop} (hS:S w.heap.size) (cs:Array Value) (n:Nat) (hc:cs=(xs.map (Value.int .i64 ·)).toArray) (hn:n=xs.length) (hl:n<=maxLen) (e:TypeId) (g:Nat) (hg:g=w.heap.size) :
  Z0 (w.alloc (.cells cs e)) S xs (.slice (some ⟨g,0,none⟩) n n):=by
 subst hc hn hg;refine⟨_,_,xs.map (Value.int .i64 ·),rfl,QT _,hl,fun _=>⟨w.heap.size,0,rfl,hS,fun j u hu=>?_⟩,VD.2 ⟨rfl,h⟩⟩;rw[Nat.zero_add,World.cell?_alloc_new];simpa using hu
theorem Ta (w:World):Zi (w.alloc (.cells #[] 3)) w.heap.size [] (.slice (some ⟨w.heap.size,0,none⟩) 0 0) :=
 ⟨World.ownsRow_made w _ 0 (QT _) (by simp) rfl,by simp⟩
theorem Zi.below {w w':World} {b:Nat} {xs:List Int} {v:Value} (h:Zi w b xs v) (hb:Below w.heap.size w w'):Zi w' b xs v:=⟨Si _ h.1 hb,h.2⟩
def UX (w:World) (e:Ending) (w':World):Prop:=∃v,e=.returned v/\w'.ownsRow w.heap.size 3 1 v 0 []/\Below w.heap.size w w'
theorem Vv (w:World) (n:Nat) (hn:n<=1000000000):Calls Tryz.prog 115 #[.slice none 0 0,.int .i64 n] w (UX w):=by
 obtain⟨i0,aj,ai,hz1,ah⟩:=info_parts R9;rcases Nat.eq_zero_or_pos n with h0|h0
 ·subst h0;go_enter Tryz.func115,Tryz.ntmps115
  go_wp2
  go_ret;exact⟨_,rfl,⟨by simp,.inl ⟨rfl,rfl⟩⟩,QQ _ _⟩
 have af:∀ty,(Builtin.append_ #[25,3] ty #[.slice none 0 0,.int .i64 (n:Int)]).run Tryz.prog w =
   .ok (.slice (some ⟨w.heap.size,0,none⟩) n (grownCap w n 0 3)) (w.drew.alloc (.cells (Builtin.zeroCells (Value.int .i64 0).cells n++Builtin.zeroCells (Value.int .i64 0).cells (grownCap w n 0 3-n)) 3)):=fun ty=>by
  have h:=Lib.run_append_grow_zeros (P:=Tryz.prog) w 25 3 ty 3 i0 (.int .i64 0) .i64 .i64 Tryz.underlying25 Tryz.underlying3 aj ai none 0 0 []
   (run_firstCells_none w.drew i0.size 0 0 0) n h0 (by omega) (by omega) (by omega) (by rw[ah];omega)
   (by rw[ah];exact growslice_fits (by omega) (by omega))
  simpa using h
 have ak:n<=grownCap w n 0 3:=grownCap_ge w _ _ _;have ag:=grownCap_le_maxLen w n 0 3 (by unfold maxLen;omega);have aa:Below w.heap.size w (w.drew.alloc (.cells (Builtin.zeroCells (Value.int .i64 0).cells n++Builtin.zeroCells (Value.int .i64 0).cells (grownCap w n 0 3-n)) 3)):=(QQ _ _).drew.alloc (QT _) _;have ae:(w.drew.alloc (.cells (Builtin.zeroCells (Value.int .i64 0).cells n++Builtin.zeroCells (Value.int .i64 0).cells (grownCap w n 0 3-n)) 3)).ownsRow w.heap.size 3 1 (.slice (some ⟨w.heap.size,0,none⟩) 0 (grownCap w n 0 3)) 0 [] :=
  World.ownsRow_made w.drew _ _ (QT _) ag (by rw[Array.size_append,size_zeroCells,size_zeroCells];simp[Value.cells];omega)
 obtain⟨G,hG⟩:∃G,G=grownCap w n 0 3:=⟨_,rfl⟩;rw[<-hG] at af ak ag aa ae;unfold maxLen at ag;obtain⟨W,hW⟩:∃W,W=(w.drew.alloc (.cells (Builtin.zeroCells (Value.int .i64 0).cells n++Builtin.zeroCells (Value.int .i64 0).cells (G-n)) 3)):=⟨_,rfl⟩;rw[<-hW] at af aa ae;have HO:=hid ae;have HB:=hid aa;clear ae aa hG hW;go_enter Tryz.func115,Tryz.ntmps115
 go_wp2_with (at_builtin;refine Lib.wpList_append_run _ rfl _ _ _ _ rfl _ _ rfl rfl _ _ (af _) ?_)
 go_ret;exact⟨_,rfl,HO.out,HB.out⟩
theorem zJ5 {w:World} {S:Nat->Prop} {xss:List (List Int)} {A:Option Addr} {cs:List Value} (h3:Zl w S A cs) (h4:ZK (Xv ZF) w S xss cs) {k:Nat} (hk:k<xss.length) :
  ∃g o A' cap' rs,A=some ⟨g,o,none⟩/\S g/\w.cell? ⟨g,o+k,none⟩=some (.slice A' xss[k].length cap')/\xss[k].length<=cap'/\cap'<=maxLen/\Zl w S A' rs/\ZK ZF w S xss[k] rs:=by
 obtain⟨g,o,c,e,hb,⟨v,rfl,A',cap',rs,rfl,h5,h6,h7,h8⟩,hc⟩:=Sl h3 h4 hk;exact⟨g,o,A',cap',rs,e,hb,by simpa[Xv] using hc 0 _ rfl,h5,h6,h7,h8⟩
theorem zPp {w:World} {S:Nat->Prop} {xss:List (List Int)} {cs:List Value} (h:ZK (Xv ZF) w S xss cs):∀x∈xss.flatten,Z4 x:=by
 induction xss generalizing cs with
 |nil=>simp
 |
  cons xs xss ih =>
  obtain⟨c,r,rfl,⟨v,rfl,A,cap,rs,rfl,_,_,_,hl⟩,hr⟩:=h;intro x hx;rw[List.flatten_cons,List.mem_append] at hx;rcases hx with hx|hx
  ·exact(VD.1 hl).2 x hx
  exact ih hr x hx
def Wl (w:World) (xs:List Int) (e:Ending) (w':World):Prop:=∃v,e=.returned v/\Zi w' w.heap.size xs v/\Below w.heap.size w w'
def WZ (w:World) (xs:List Int) (e:Ending) (w':World):Prop:=∃v,e=.returned v/\Z0 w' (Lt w'.heap.size) xs v/\Below w.heap.size w w'
theorem Wl.ints {w w':World} {xs:List Int} {e:Ending} (h:Wl w xs e w'):WZ w xs e w':=by
 obtain⟨v,he,ho,hb⟩:=h;exact⟨v,he,ho.ints (fun k _ hk=>hk),hb⟩
def Xo (xss:List (List Int)):Nat:=xss.flatten.length
theorem zC9 (xss:List (List Int)) (k:Nat):Xo (xss.take k)<=Xo xss:=by
 unfold Xo
 conv=>rhs;rw[<-List.take_append_drop k xss]
 rw[List.flatten_append,List.length_append];omega
theorem zDf (xss:List (List Int)) {k:Nat} (hk:k<xss.length):(xss.take (k+1)).flatten=(xss.take k).flatten++xss[k]:=by
 rw[List.take_succ_eq_append_getElem hk,List.flatten_append,List.flatten_cons,List.flatten_nil,List.append_nil]
theorem zGt (xss:List (List Int)) (w:World) (v:Value) (hv:Z8 (Xv ZF) w (Lt w.heap.size) xss v) (ak:xss.flatten.length<=1000000) :
  Calls Tryz.prog 87 #[v] w (Wl w xss.flatten):=by
 obtain⟨A,cap,rs,rfl,aP,az,aj,ag⟩:=hv;obtain⟨i0,aJ,aH,aG,aF⟩:=info_parts R9;unfold maxLen at az;have hl1:xss.length<=9223372036854775807:=by omega
 have H:Hid (Zl w (Lt w.heap.size) A rs/\ZK (Xv ZF) w (Lt w.heap.size) xss rs):=⟨aj,ag⟩;clear aj ag;have aL:Xo xss<=1000000:=ak;clear ak;go_enter Tryz.func87,Tryz.ntmps87
 go_wp2
 go_loop [3,11] (fun s i=>∃k:Nat,k<=xss.length/\i=.int .i64 k/\s=.int .i64 (Xo (xss.take k))) (fun _ i=>xss.length-(intOf i).toNat)
 case atStart=>exact⟨0,QU _,rfl,rfl⟩
 obtain⟨k,hk,rfl,rfl⟩:=hrel;have aO:=zC9 xss k;by_cases ah:k<xss.length
 ·obtain⟨g,o,A',cap',aA,rfl,hg,c0,_,_,_,_⟩:=zJ5 H.out.1 H.out.2 ah;have aN:=zC9 xss (k+1);have HF:Hid (Xo (xss.take (k+1))=Xo (xss.take k)+xss[k].length):=by show _=_;unfold Xo;rw[zDf xss ah,List.length_append]
  have aM:Xo (xss.take k)+xss[k].length<=1000000:=by rw[<-HF.out];omega
  have aI:decide ((Xo (xss.take k):Int)+(xss[k].length:Int)<0)=false:=by simp;omega
  go_wp2
  go_round
  case rel=>exact⟨k+1,by omega,by go_num,by rw[HF.out];go_num⟩
  case measure=>simp[intOf];omega
 have aD:Xo (xss.take k)=Xo xss:=by rw[List.take_of_length_le (by omega)]
 rw[aD];clear aD
 go_wp2_with fail
 refine(Vv w (Xo xss) (by omega)).mono ?_;rintro e w1 ⟨v1,rfl,af,au⟩;have H1:Hid (Zl w1 (Lt w.heap.size) A rs/\ZK (Xv ZF) w1 (Lt w.heap.size) xss rs):=⟨H.out.1.keep (Zy.of_below au (QT _)) (fun _ h=>h),H.out.2.keep (Zy.of_below au (QT _)) (fun _ h=>h)⟩;have HO:Hid (w1.ownsRow w.heap.size 3 1 v1 0 []/\Below w.heap.size w w1):=⟨af,au⟩;have ax:=au.size;clear af au
 go_wp2_with fail
 go_loopw [6,27] (fun s i wr=>Below w.heap.size w1 wr/\∃k:Nat,k<=xss.length/\i=.int .i64 k/\wr.ownsRow w.heap.size 3 1 s (Xo (xss.take k)) ((xss.take k).flatten.map (.int .i64 ·))) (fun _ i _=>xss.length-(intOf i).toNat)
 case atStart=>exact⟨QQ _ _,0,QU _,rfl,by simpa[Xo] using HO.out.1⟩
 obtain⟨ai,k,hk,rfl,aa⟩:=hrel;have aO:=zC9 xss k;by_cases ah:k<xss.length
 ·obtain⟨g,o,A',cap',aA,rfl,hg,c0,_,_,aj,ag⟩:=zJ5 (H1.out.1.keep (Zy.of_below ai (QT _)) (fun _ h=>h)) (H1.out.2.keep (Zy.of_below ai (QT _)) (fun _ h=>h)) ah;have aN:=zC9 xss (k+1);have HF:Hid (Xo (xss.take (k+1))=Xo (xss.take k)+xss[k].length):=by show _=_;unfold Xo;rw[zDf xss ah,List.length_append]
  have aM:Xo (xss.take k)+xss[k].length<=1000000:=by rw[<-HF.out];omega
  have ay:=ag.one;have aC:=ag.len;have HP:=hid (VD.1 ag).1;have HL:Hid (aA.length=xss[k].length*1):=aC;clear aC;have aB:w.heap.size<=wr.heap.size:=QP ax ai.size;have aS:=hid aj;have av:=hid aa;clear aj ag aa aL
  go_wp2_with (at_builtin;refine UG _ rfl (.tmp 31) (.tmp 32) _ rfl w.heap.size 3 i0 _ 1 8 Tryz.underlying25 aJ aH aG aF rfl (by omega) _ _ _ rfl av.out _ _ _ _ _ rfl HL.out aS.out ay (by simp only[maxLen];omega) (by omega) aB ?_;intro v2 w2 ae aK aR)
  have aQ:Below w.heap.size wr w2:=WF _ av.out aK aB;rw[HP.out] at ae;go_roundw
  case rel=>exact⟨ai.trans aQ,k+1,by omega,by go_num,by rw[HF.out,zDf xss ah,List.map_append];exact ae⟩
  case measure=>simp[intOf];omega
 have he:xss.take k=xss:=List.take_of_length_le (by omega);rw[he] at aa;have av:=hid aa;have HB:=hid ai;clear he aa ai
 go_wp2_with fail
 go_ret;exact⟨_,rfl,⟨av.out,zPp H.out.2⟩,HO.out.2.trans HB.out⟩
theorem zQp (xs:List Int) (w:World) (v:Value) (hv:Z0 w (Lt w.heap.size) xs v) (av:xs.length<=1000000) :
  Calls Tryz.prog 97 #[v] w (Wl w xs):=by
 obtain⟨A,cap,rs,rfl,aj,ai,aa,ae⟩:=hv;obtain⟨i0,hi0,hz0,hz1,hz2⟩:=info_parts R9;unfold maxLen at ai;have hl1:xs.length<=9223372036854775807:=by omega
 have ah:=ae.one;have HP:=hid (VD.1 ae);have HL:Hid (rs.length=xs.length*1):=ae.len;have ak:=hid aa;clear ae;rcases A with _|ad
 ·have h0:xs.length=0:=by
   rcases Nat.eq_zero_or_pos xs.length with h0|h0
   ·exact h0
   obtain⟨ad,h⟩:=aa.some_ (by rw[HL.out];omega);cases h
  have hx:xs=[]:=List.eq_nil_of_length_eq_zero h0;subst hx;clear aa HP HL ak;have hn:=fun w=>Lib.run_eql_slice_nil (P:=Tryz.prog) w
  go_enter Tryz.func97,Tryz.ntmps97
  go_wp2
  go_ret;exact⟨_,rfl,⟨World.ownsRow_nil _ _ _ _,by simp⟩,QQ _ _⟩
 have af:Below w.heap.size w (w.alloc (.cells #[] 3)):=(QQ _ _).alloc (QT _) _;have au:Z0 (w.alloc (.cells #[] 3)) (Lt (w.alloc (.cells #[] 3)).heap.size) xs (.slice (some ad) xs.length cap):=Z8.below (E:=ZF) ⟨_,_,rs,rfl,aj,by simp only[maxLen];omega,ak.out,VD.2 HP.out⟩ af af.size;have HV:=hid au;have HB:=hid af;have hn:=fun w=>Lib.run_eql_slice_nil (P:=Tryz.prog) w
 clear aa HP HL ak au ah af;go_enter Tryz.func97,Tryz.ntmps97
 go_wp2_with (at_builtin;refine YN rfl (.tmp 5) (.tmp 6) rfl w.heap.size _ [] xs rfl (Ta w) _ _ _ _ rfl HV.out (by simp;omega) (by simp) ?_;intro v' w' ag ax _)
 go_ret;exact⟨_,rfl,ag,HB.out.trans ax⟩
def Zj (p:List Int):Int:=if p.length=1 then p.headD 0 else p.headD 0+1
theorem zN7 (x:Int) (g o m cap:Nat) (w:World) (a0:w.cell? ⟨g,o,none⟩=some (.int .i64 x)) (hgl:g<w.heap.size) (m2:0<m) (hml:m<=9223372036854775807) (hx:0<=x/\x<=1000000) :
  Calls Tryz.prog 160 #[.slice (some ⟨g,o,none⟩) m cap] w fun e w'=>e=.returned (.agg #[.int .i64 x,.int .i64 (if m=1 then x else x+1)])/\Below w.heap.size w w':=by
 have m0:(0:Int)<(m:Int):=by omega
 obtain⟨hx0,hx1⟩:=hx;by_cases h1:m=1
 ·have d1:((m:Int)==1)=true:=by rw[h1];rfl
  rw[if_pos h1];clear h1;go_enter Tryz.func160,Tryz.ntmps160
  go_wp2_with fail
  go_region
  all_goals
   go_wp2_with fail
   exact bodyPost_ret (v:=.agg #[.int .i64 x,.int .i64 x]) (by simp[results,Tryz.results160,go_sem]) rfl ⟨rfl,((QQ _ _).alloc (QT _) _).drew⟩
 have d1:((m:Int)==1)=false:=by rw[beq_eq_false_iff_ne];omega
 rw[if_neg h1];clear h1;have wd:IntKind.i64.wrap (x+1)=x+1:=IntWalk.i64_in _ (by omega);go_enter Tryz.func160,Tryz.ntmps160
 go_wp2_with fail
 go_region
 all_goals
  go_wp2_with fail
  exact bodyPost_ret (v:=.agg #[.int .i64 x,.int .i64 (x+1)]) (by simp[results,Tryz.results160,go_sem]) rfl ⟨rfl,((QQ _ _).alloc (QT _) _).drew⟩
theorem Vm (p:List Int) (k:Nat) (b:Value) (w:World) (S:Nat->Prop) (hp:Z0 w S p b) (hk:k<p.length) (hpl:p.length<=1000000) (hx:0<=p[k]/\p[k]<=1000000) :
  Calls Tryz.prog 159 #[b,.int .i64 k] w fun e w'=>e=.returned (.tuple #[.int .i64 p[k],.int .i64 (Zj (p.drop k))])/\∃n,w'=w.drewN n:=by
 obtain⟨A,cap,rs,rfl,ah,ag,aa,ae⟩:=hp;obtain⟨g,o,rfl,hg,hi,a0⟩:=YG aa ae hk;have hd:(p.drop k).headD 0=p[k]:=by rw[List.drop_eq_getElem_cons hk];rfl
 have i0:(k:Int)<(p.length:Int):=by omega
 obtain⟨hx0,hx1⟩:=hx;have af:(p.length:Int)<=1000000:=by omega
 by_cases h1:p.length=k+1
 ·have HF:Hid (Zj (p.drop k)=p[k]):=by show _=_;unfold Zj;rw[if_pos (by rw[List.length_drop];omega),hd]
  have d1:((p.length:Int)==(k:Int)+1)=true:=by simp;omega
  rw[HF.out];clear aa ae h1 hd;generalize p[k]=x at *;go_enter Tryz.func159,Tryz.ntmps159
  go_wp2_with fail
  go_quiet (fail)
  go_wp2_with fail
  go_ret2
  exact⟨rfl,_,rfl⟩
 have HF:Hid (Zj (p.drop k)=p[k]+1):=by show _=_;unfold Zj;rw[if_neg (by rw[List.length_drop];omega),hd]
 have d1:((p.length:Int)==(k:Int)+1)=false:=by simp;omega
 rw[HF.out];clear aa ae h1 hd;generalize p[k]=x at *;have wd:IntKind.i64.wrap (x+1)=x+1:=IntWalk.i64_in _ (by omega);go_enter Tryz.func159,Tryz.ntmps159
 go_wp2_with fail
 go_quiet (fail)
 go_wp2_with fail
 go_ret2
 exact⟨rfl,_,rfl⟩
def WE (W:World) (g o:Nat) (t:Z9) (v:Value):Prop :=
 W.cell? ⟨g,o,none⟩=some (.int .i64 t.kind)/\W.cell? ⟨g,o+1,none⟩=some (.string t.text)/\W.cell? ⟨g,o+2,none⟩=some (.int .i64 t.cols)/\W.cell? ⟨g,o+3,none⟩=some v
def Zt (t:Z9):Prop:=Z4 t.kind/\Z4 t.cols/\t.text.size<=maxLen
abbrev YP:=Nat×Nat×Z9
def UH (w0 W:World) (S:Nat->Prop) (x:YP):Prop :=
 S x.1/\(∃a,x.2.1=a*4)/\Zt x.2.2/\∃v,WE W x.1 x.2.1 x.2.2 v/\Z8 Z7 w0 (Lt w0.heap.size) x.2.2.kids v
inductive WJ (W:World) (S:Nat->Prop) (P:YP->Prop):Nat->Nat->Z9->Prop
 |pend (g o:Nat) (t:Z9):P (g,o,t)->WJ W S P g o t
 |done (g o:Nat) (t:Z9) (g' cap:Nat) (A:Option Addr):S g->(∃a,o=a*4)->Zt t->WE W g o t (.slice A t.kids.length cap)->t.kids.length<=cap->cap<=maxLen ->
  (0<t.kids.length->A=some ⟨g',0,none⟩/\S g')->(∀(i:Nat) (h:i<t.kids.length),WJ W S P g' (i*4) t.kids[i])->WJ W S P g o t
theorem WE.keep {W W':World} {g o:Nat} {t:Z9} {v:Value} (h:WE W g o t v) (hk:∀j,j<4->W'.cell? ⟨g,o+j,none⟩=W.cell? ⟨g,o+j,none⟩):WE W' g o t v:=by
 have e0:=hk 0 (by omega);simp only[Nat.add_zero] at e0;exact⟨e0.trans h.1,(hk 1 (by omega)).trans h.2.1,(hk 2 (by omega)).trans h.2.2.1,(hk 3 (by omega)).trans h.2.2.2⟩
theorem WJ.step {w0 W W':World} {S S':Nat->Prop} {P P':YP->Prop} {g o g' cap':Nat} {t:Z9} {A':Option Addr} (hp:UH w0 W S (g,o,t)) (hP:∀x,P x->x=(g,o,t)\/P' x) (hS:∀k,S k->S' k) (h0:∀k,S k->w0.heap.size<=k)
  (hk:∀q:Addr,S q.block->q≠⟨g,o+3,none⟩->W'.cell? q=W.cell? q) (hc:W'.cell? ⟨g,o+3,none⟩=some (.slice A' t.kids.length cap')) (aj:t.kids.length<=cap') (af:cap'<=maxLen) (hA:0<t.kids.length->A'=some ⟨g',0,none⟩/\S' g')
  (ag:∀(i:Nat) (h:i<t.kids.length),P' (g',i*4,t.kids[i])) {gr orr:Nat} {tr:Z9} (h:WJ W S P gr orr tr):WJ W' S' P' gr orr tr:=by
 obtain⟨hg,⟨a,ha⟩,ak,v,hn,hv⟩:=hp;simp only at hg ha ak hn hv;have ae:∀g1 o1 b,S g1->o1=b*4->¬(g1=g/\o1=o)->∀j,j<4->W'.cell? ⟨g1,o1+j,none⟩=W.cell? ⟨g1,o1+j,none⟩:=fun g1 o1 b hs hb au j hj=>hk ⟨g1,o1+j,none⟩ hs (fun e=>by
  injection e with e1 e2
  exact au ⟨e1,by omega⟩)
 have aa:∀j,j<3->W'.cell? ⟨g,o+j,none⟩=W.cell? ⟨g,o+j,none⟩:=fun j hj=>hk ⟨g,o+j,none⟩ hg (fun e=>by injection e with _ e2;omega)
 have ai:=aa 0 (by omega);simp only[Nat.add_zero] at ai;have av:WE W' g o t (.slice A' t.kids.length cap'):=⟨ai.trans hn.1,(aa 1 (by omega)).trans hn.2.1,(aa 2 (by omega)).trans hn.2.2.1,hc⟩;induction h with
 |
  pend g1 o1 t1 h1 =>
  rcases hP _ h1 with e|h2
  ·cases e;exact .done _ _ _ g' cap' A' (hS _ hg) ⟨a,ha⟩ ak av aj af hA (fun i hi=>.pend _ _ _ (ag i hi))
  exact .pend _ _ _ h2
 |
  done g1 o1 t1 g2 cap1 A1 h1 h2 h3 h4 h5 h6 h7 h8 ih =>
  obtain⟨b,hb⟩:=h2;by_cases he:g1=g/\o1=o
  ·obtain⟨rfl,rfl⟩:=he;have ev:v=.slice A1 t1.kids.length cap1:=by
    have:=h4.2.2.2;rw[hn.2.2.2] at this;exact Option.some.inj this
   subst ev;obtain⟨A2,c2,cs,e2,hc1,hc2,hr,hl⟩:=hv;injection e2 with e3 e4 e5
   have hz:t1.kids.length=0:=by
    rcases Nat.eq_zero_or_pos t1.kids.length with hz|hz
    ·exact hz
    exfalso;obtain⟨az,ay⟩:=h7 hz;have ah:=hl.len;obtain⟨gg,oo,e6,ax,_⟩:=hr (by rw[ah,<-e4];simp[Z7];omega);rw[<-e3,az] at e6;cases e6;have:=h0 _ ay;have:g2<w0.heap.size:=ax;omega
   have k0:W'.cell? ⟨g1,o1+3,none⟩=some (.slice A' t1.kids.length cap'):=by rw[e4];exact hc
   refine .done _ _ _ g' cap' A' (hS _ hg) ⟨b,hb⟩ h3 ⟨ai.trans h4.1,(aa 1 (by omega)).trans h4.2.1,(aa 2 (by omega)).trans h4.2.2.1,k0⟩ (by omega) af (fun h=>by omega) (fun i hi=>by omega)
  exact .done _ _ _ g2 cap1 A1 (hS _ h1) ⟨b,hb⟩ h3 (h4.keep (ae g1 o1 b h1 hb he)) h5 h6 (fun h=>⟨(h7 h).1,hS _ (h7 h).2⟩) ih
theorem WJ.keep {W W':World} {S S':Nat->Prop} {P P':YP->Prop} (hS:∀k,S k->S' k) (hk:∀q:Addr,S q.block->W'.cell? q=W.cell? q) (hP:∀x,P x->P' x) {g o:Nat} {t:Z9} (h:WJ W S P g o t):WJ W' S' P' g o t:=by
 induction h with
 |pend g1 o1 t1 h1=>exact .pend _ _ _ (hP _ h1)
 |done g1 o1 t1 g2 cap1 A1 h1 h2 h3 h4 h5 h6 h7 h8 ih=>exact .done _ _ _ g2 cap1 A1 (hS _ h1) h2 h3 (h4.keep fun j _=>hk ⟨g1,o1+j,none⟩ h1) h5 h6 (fun h=>⟨(h7 h).1,hS _ (h7 h).2⟩) ih
theorem UH.keep {w0 W W':World} {S S':Nat->Prop} {x:YP} (h:UH w0 W S x) (hS:∀k,S k->S' k) (hk:∀j,j<4->W'.cell? ⟨x.1,x.2.1+j,none⟩=W.cell? ⟨x.1,x.2.1+j,none⟩):UH w0 W' S' x:=by
 obtain⟨h1,h2,h3,v,h4,h5⟩:=h;exact⟨hS _ h1,h2,h3,v,h4.keep hk,h5⟩
theorem UH.other {w0 W W':World} {S S':Nat->Prop} {x:YP} {g o:Nat} (h:UH w0 W S x) (ho:∃a,o=a*4) (aa:¬(x.1=g/\x.2.1=o)) (hS:∀k,S k->S' k) (hk:∀q:Addr,S q.block->q≠⟨g,o+3,none⟩->W'.cell? q=W.cell? q):UH w0 W' S' x:=by
 obtain⟨b,hb⟩:=h.2.1;obtain⟨a,ha⟩:=ho;refine h.keep hS fun j hj=>hk ⟨x.1,x.2.1+j,none⟩ h.1 (fun e=>?_)
 injection e with e1 e2
 exact aa ⟨e1,by omega⟩
theorem zKk {W:World} {S:Nat->Prop} {g:Nat} (hS:S g):∀(ts:List Z9) (aa:Nat),(∀(i:Nat) (h:i<ts.length),∃v,WE W g (aa+i*4) ts[i] v/\Zt ts[i]/\Z8 Z7 W S ts[i].kids v) ->
  ∃cs,ZK Z7 W S ts cs/\∀j u,cs[j]?=some u->W.cell? ⟨g,aa+j,none⟩=some u
 |[],aa,_=>⟨[],rfl,fun j u h=>by simp at h⟩
 |
  t::ts,aa,h=>by
  obtain⟨v,hn,ae,hv⟩:=h 0 (by simp);simp only[Nat.zero_mul,Nat.add_zero,List.getElem_cons_zero] at hn ae hv;obtain⟨cs,hl,hc⟩:=zKk hS ts (aa+4) (fun i hi=>by
   obtain⟨u,h1,h2,h3⟩:=h (i+1) (by simpa using hi);rw[show aa+(i+1)*4=aa+4+i*4 by omega] at h1;exact⟨u,by simpa using h1,by simpa using h2,by simpa using h3⟩)
  refine⟨[.int .i64 t.kind,.string t.text,.int .i64 t.cols,v]++cs,⟨_,cs,rfl,YI.2 ⟨v,rfl,ae.1,ae.2.1,ae.2.2,hv⟩,hl⟩,fun j u hu=>?_⟩
  match j,hu with
  |0,hu=>cases hu;exact hn.1
  |1,hu=>cases hu;exact hn.2.1
  |2,hu=>cases hu;exact hn.2.2.1
  |3,hu=>cases hu;exact hn.2.2.2
  |
   j+4,hu =>
   have:=hc j u (by simpa using hu);rw[show aa+(j+4)=aa+4+j by omega];exact this
theorem WJ.reads {W:World} {S:Nat->Prop} {P:YP->Prop} (hP:∀x,¬P x) {g o:Nat} {t:Z9} (h:WJ W S P g o t):∃v,WE W g o t v/\Zt t/\Z8 Z7 W S t.kids v:=by
 induction h with
 |pend g1 o1 t1 h1=>exact absurd h1 (hP _)
 |
  done g1 o1 t1 g2 cap1 A1 h1 h2 h3 h4 h5 h6 h7 h8 ih =>
  refine⟨_,h4,h3,?_⟩;rcases Nat.eq_zero_or_pos t1.kids.length with hz|hz
  ·have e:t1.kids=[]:=List.eq_nil_of_length_eq_zero hz;exact⟨A1,cap1,[],rfl,h5,h6,Zl.nil_,by rw[e];rfl⟩
  obtain⟨rfl,aa⟩:=h7 hz;obtain⟨cs,hl,hc⟩:=zKk aa t1.kids 0 (fun i hi=>by
   obtain⟨v,a,b,c⟩:=ih i hi;exact⟨v,by rwa[Nat.zero_add],b,c⟩)
  exact⟨_,cap1,cs,rfl,h5,h6,fun _=>⟨g2,0,rfl,aa,hc⟩,hl⟩
theorem Z9.ind {P:Z9->Prop} (h:∀t:Z9,(∀k∈t.kids,P k)->P t):∀t,P t:=by
 intro t;have:∀(n:Nat) (t:Z9),SizeOf.sizeOf t<=n->P t:=by
  intro n;induction n with
  |zero=>intro t ht;cases t;simp at ht
  |
   succ n ih =>
   intro t ht;refine h t fun k hk=>ih k ?_
   cases t with
   |
    mk a b c ts =>
    have:=List.sizeOf_lt_of_mem (show k∈ts from hk);simp at ht;omega
 exact this _ t (QT _)
mutual
def WH:Z9->Int->Int
 |.mk _ _ _ ts,m=>Xq ts (m-1)
def Xq:List Z9->Int->Int
 |[],m=>m
 |t::ts,m=>if 0<=m then Xq ts (WH t m) else m
end
mutual
theorem zN2:(t:Z9)->(m:Int)->0<=m->-1<=WH t m/\WH t m<=m-1
 |
  .mk _ _ _ ts,m,h=>by
  unfold WH
  exact zLl ts (m-1) (by omega)
theorem zLl:(ts:List Z9)->(m:Int)->-1<=m->-1<=Xq ts m/\Xq ts m<=m
 |[],m,h=>by simp[Xq];exact h
 |
  t::ts,m,h=>by
  unfold Xq
  split
  ·have h1:=zN2 t m (by omega)
   have h2:=zLl ts (WH t m) h1.1
   omega
  omega
end
theorem VC (t:Z9):∀(w:World) (v:Value) (m:Int) (_:Z8 Z7 w (Lt w.heap.size) t.kids v) (_:0<=m) (_:m<=1000000),
  Calls Tryz.prog 51 #[.agg #[.int .i64 t.kind,.string t.text,.int .i64 t.cols,v],.int .i64 m] w fun e w'=>e=.returned (.int .i64 (WH t m))/\Below w.heap.size w w':=by
 induction t using Z9.ind with
 |h t ih =>
 obtain⟨tk,tx,tc,ts⟩:=t;intro w v m hv hm0 hm1;simp only[Z9.kind,Z9.text,Z9.cols,Z9.kids] at *;obtain⟨A,cap,rs,rfl,aA,ai,au,av⟩:=hv;unfold maxLen at ai;have az:ts.length<=9223372036854775807:=by omega
 have H:Hid (Zl w (Lt w.heap.size) A rs/\ZK Z7 w (Lt w.heap.size) ts rs):=⟨au,av⟩;clear au av;go_enter Tryz.func51,Tryz.ntmps51
 go_wp2
 go_loopw [1,5] (fun m' i wr=>Below w.heap.size w wr/\wr.cell? ⟨w.heap.size,3,none⟩=some (.slice A ts.length cap)/\w.heap.size<wr.heap.size/\∃(k:Nat) (n:Int),k<=ts.length/\i=.int .i64 k/\m'=.int .i64 n/\-1<=n/\n<=1000000/\Xq (ts.drop k) n=Xq ts (m-1)) (fun _ i _=>ts.length-(intOf i).toNat)
 case atStart=>exact⟨(QQ _ _).alloc (QT _) _,World.cell?_alloc_new _ _ _ _,by simp,0,m-1,QU _,rfl,rfl,by omega,by omega,rfl⟩
 obtain⟨hb,hs,hz,k,n,hk,rfl,rfl,hn0,hn1,aa⟩:=hrel;have HR:Hid (Xq (ts.drop k) n=Xq ts (m-1)):=aa;clear aa;by_cases ag:k<ts.length
 ·by_cases hn:0<=n
  ·obtain⟨g,o,A',cap',ax,rfl,hg,c0,c1,c2,c3,_,_,_,aC,aB,ae,af⟩:=Y5 (H.out.1.keep (Zy.of_below hb (QT _)) (Lt.mono hb.size)) (H.out.2.keep (Zy.of_below hb (QT _)) (Lt.mono hb.size)) ag;have ah:ts[k]∈ts:=List.getElem_mem ag;have hbd:=zN2 ts[k] n hn;have ak:Z8 Z7 wr (Lt wr.heap.size) ts[k].kids (.slice A' ts[k].kids.length cap'):=⟨A',cap',ax,rfl,aC,aB,ae,af⟩
   go_wp2_with fail
   refine(ih ts[k] ah wr _ n ak hn (by omega)).mono ?_;rintro e w1 ⟨rfl,aj⟩;have ay:w1.cell? ⟨w.heap.size,3,none⟩=some (.slice (some ⟨g,o,none⟩) ts.length cap):=((bcell aj).1 _ _ hz).trans hs;clear ak ae af c0 c1 c2 c3 hs
   go_wp2_with fail
   go_roundw
   case rel=>exact⟨hb.trans (aj.mono hb.size),ay,by have:=aj.size;omega,k+1,_,by omega,by go_num,rfl,by omega,by omega,by rw[<-HR.out,List.drop_eq_getElem_cons ag,Xq,if_pos hn]⟩
   case measure=>simp[intOf];omega
  have hd:Xq (ts.drop k) n=n:=by rw[List.drop_eq_getElem_cons ag,Xq,if_neg hn]
  have HD:=hid (HR.out.symm.trans hd);clear hd
  go_wp2_with fail
  go_ret;exact⟨by rw[WH,HD.out];rfl,hb⟩
 have hd:Xq (ts.drop k) n=n:=by rw[List.drop_of_length_le (by omega),Xq]
 have HD:=hid (HR.out.symm.trans hd);clear hd
 go_wp2_with fail
 go_ret;exact⟨by rw[WH,HD.out];rfl,hb⟩
def Yb (t:Z9) (m:Int):Bool:=decide (0<=WH t m)
theorem zQi (t:Z9) (w:World) (v:Value) (m:Int) (hv:Z8 Z7 w (Lt w.heap.size) t.kids v) (h0:0<=m) (h1:m<=1000000) :
  Calls Tryz.prog 19 #[.agg #[.int .i64 t.kind,.string t.text,.int .i64 t.cols,v],.int .i64 m] w fun e w'=>e=.returned (.bool (Yb t m))/\Below w.heap.size w w':=by
 have aa:Below w.heap.size w (w.alloc (.cells #[.int .i64 t.kind,.string t.text,.int .i64 t.cols,v] 24)):=(QQ _ _).alloc (QT _) _;have ae:=hv.below aa aa.size;go_enter Tryz.func19,Tryz.ntmps19
 go_wp2_with fail
 refine(VC t _ v m ae h0 h1).mono ?_;rintro e w1 ⟨rfl,af⟩
 go_wp2_with fail
 go_ret;exact⟨rfl,aa.trans (af.mono (by simp))⟩
mutual
def ZW:Z9->Nat
 |.mk _ _ _ ts=>1+ZT ts
def ZT:List Z9->Nat
 |[]=>0
 |t::ts=>ZW t+ZT ts
end
mutual
def Y8:Z9->Nat
 |.mk _ _ _ ts=>YQ ts+1
def YQ:List Z9->Nat
 |[]=>0
 |t::ts=>max (Y8 t) (YQ ts)
end
theorem Ua (xs ys:List Z9):ZT (xs++ys)=ZT xs+ZT ys:=by
 induction xs with
 |nil=>simp[ZT]
 |cons x xs ih=>simp[ZT,ih];omega
theorem zFm (xs ys:List Z9):YQ (xs++ys)=max (YQ xs) (YQ ys):=by
 induction xs with
 |nil=>simp[YQ]
 |cons x xs ih=>simp only[YQ,ih,List.cons_append];omega
theorem WV {ts:List Z9} {k:Nat} (h:k<ts.length):ZT (ts.take (k+1))=ZT (ts.take k)+ZW ts[k]:=by
 rw[List.take_succ_eq_append_getElem h,Ua];simp[ZT]
theorem zL2 {ts:List Z9} {k:Nat} (h:k<ts.length):YQ (ts.take (k+1))=max (YQ (ts.take k)) (Y8 ts[k]):=by
 rw[List.take_succ_eq_append_getElem h,zFm];simp[YQ]
theorem Xy (ts:List Z9) (k:Nat):ZT (ts.take k)<=ZT ts:=by
 conv=>rhs;rw[<-List.take_append_drop k ts,Ua]
 omega
mutual
theorem zDl:(t:Z9)->Y8 t<=ZW t
 |.mk _ _ _ ts=>by unfold Y8 ZW;have:=zDs ts;omega
theorem zDs:(ts:List Z9)->YQ ts<=ZT ts
 |[]=>by simp[YQ]
 |t::ts=>by unfold YQ ZT;have:=zDl t;have:=zDs ts;omega
end
theorem zQo (t:Z9):∀(w:World) (v:Value) (_:Z8 Z7 w (Lt w.heap.size) t.kids v) (_:ZW t<=1000000000),
  Calls Tryz.prog 61 #[.agg #[.int .i64 t.kind,.string t.text,.int .i64 t.cols,v]] w fun e w'=>e=.returned (.int .i64 (ZW t))/\Below w.heap.size w w':=by
 induction t using Z9.ind with
 |h t ih =>
 obtain⟨tk,tx,tc,ts⟩:=t;intro w v hv hm;simp only[Z9.kind,Z9.text,Z9.cols,Z9.kids] at *;obtain⟨A,cap,rs,rfl,aA,ag,au,av⟩:=hv;unfold maxLen at ag;have az:ts.length<=9223372036854775807:=by omega
 have H:Hid (Zl w (Lt w.heap.size) A rs/\ZK Z7 w (Lt w.heap.size) ts rs):=⟨au,av⟩;have HC:Hid (ZW (.mk tk tx tc ts)=1+ZT ts):=by show _=_;rw[ZW]
 rw[HC.out] at hm;clear au av;go_enter Tryz.func61,Tryz.ntmps61
 go_wp2
 go_loopw [3,4] (fun o i wr=>Below w.heap.size w wr/\wr.cell? ⟨w.heap.size,3,none⟩=some (.slice A ts.length cap)/\w.heap.size<wr.heap.size/\∃(k:Nat),k<=ts.length/\i=.int .i64 k/\o=.int .i64 ((1+ZT (ts.take k):Nat):Int)) (fun _ i _=>ts.length-(intOf i).toNat)
 case atStart=>exact⟨(QQ _ _).alloc (QT _) _,World.cell?_alloc_new _ _ _ _,by simp,0,QU _,rfl,rfl⟩
 obtain⟨hb,hs,hz,k,hk,rfl,rfl⟩:=hrel;have hle:=Xy ts k;by_cases ah:k<ts.length
 ·obtain⟨g,o,A',cap',ax,rfl,hg,c0,c1,c2,c3,_,_,_,aC,aB,aa,ae⟩:=Y5 (H.out.1.keep (Zy.of_below hb (QT _)) (Lt.mono hb.size)) (H.out.2.keep (Zy.of_below hb (QT _)) (Lt.mono hb.size)) ah;have af:ts[k]∈ts:=List.getElem_mem ah;have ai:=Xy ts (k+1);have HT:=hid (WV ah);rw[HT.out] at ai;have ak:Z8 Z7 wr (Lt wr.heap.size) ts[k].kids (.slice A' ts[k].kids.length cap'):=⟨A',cap',ax,rfl,aC,aB,aa,ae⟩
  go_wp2_with fail
  refine(ih ts[k] af wr _ ak (by omega)).mono ?_;rintro e w1 ⟨rfl,aj⟩;have ay:w1.cell? ⟨w.heap.size,3,none⟩=some (.slice (some ⟨g,o,none⟩) ts.length cap):=((bcell aj).1 _ _ hz).trans hs;clear ak aa ae c0 c1 c2 c3 hs
  go_wp2_with fail
  go_roundw
  case rel=>exact⟨hb.trans (aj.mono hb.size),ay,by have:=aj.size;omega,k+1,by omega,by go_num,by rw[HT.out];go_num⟩
  case measure=>simp[intOf];omega
 have HT:Hid (ts.take k=ts):=List.take_of_length_le (by omega);rw[HT.out];have HB:=hid hb;clear hb
 go_wp2_with fail
 go_ret;exact⟨by rw[HC.out];rfl,HB.out⟩
theorem Xx (w:World) (o:Obj):Below w.heap.size w (w.alloc o):=(QQ _ _).alloc (QT _) _
theorem zN5:(Tryz.prog.info? 25).map (fun i=>(i.zero,i.size,i.bytes))=some (some (.slice none 0 0),1,24):=by kernel_rfl
def Yj (b:Nat) (w:World) (v:Value) (k:Nat):Prop:=b<=k/\k<w.heap.size/\some k≠v.ownBlock
def Yk (w:World) (b:Nat) (xss:List (List Int)) (v:Value):Prop:=∃cs,w.ownsRow b 25 1 v xss.length cs/\ZK (Xv ZF) w (Yj b w v) xss cs
abbrev RQ (w:World) (S:Nat->Prop) (xss:List (List Int)) (v:Value):Prop:=Z8 (Xv ZF) w S xss v
theorem WI (S:Nat->Prop) (w:World):Zy S w w:=fun _ _=>rfl
theorem Yk.rows {w:World} {b:Nat} {xss:List (List Int)} {v:Value} (h:Yk w b xss v):RQ w (fun k=>b<=k/\k<w.heap.size) xss v:=by
 obtain⟨cs,h1,h2⟩:=h;exact Z8.of_own (E:=Xv ZF) h1 (fun k hk=>⟨(h1.lt k hk).1,(h1.lt k hk).2⟩) (h2.keep (WI _ _) (fun k hk=>⟨hk.1,hk.2.1⟩))
theorem Yk.rowsLt {w:World} {b:Nat} {xss:List (List Int)} {v:Value} (h:Yk w b xss v):RQ w (Lt w.heap.size) xss v:=h.rows.keep (WI _ _) (fun k hk=>hk.2)
theorem Yk.nil (w:World) (b:Nat):Yk w b [] (.slice none 0 0):=⟨[],World.ownsRow_nil _ _ _ _,rfl⟩
theorem Yk.below {w w':World} {b:Nat} {xss:List (List Int)} {v:Value} (h:Yk w b xss v) (hb:Below w.heap.size w w'):Yk w' b xss v:=by
 obtain⟨cs,h1,h2⟩:=h;exact⟨cs,Si _ h1 hb,h2.keep (S:=Yj b w v) (fun p hp=>hb.cell hp.2.1) (fun k hk=>⟨hk.1,QV hk.2.1 hb.size,hk.2.2⟩)⟩
theorem Yk.own_lt {w:World} {b:Nat} {xss:List (List Int)} {v:Value} (h:Yk w b xss v):∀k,v.ownBlock=some k->b<=k/\k<w.heap.size:=by
 obtain⟨cs,h1,_⟩:=h;exact fun k hk=>h1.lt k hk
theorem Yk.base {w:World} {b b':Nat} {xss:List (List Int)} {v:Value} (h:Yk w b xss v) (hb:b'<=b):Yk w b' xss v:=by
 obtain⟨cs,h1,h2⟩:=h;refine⟨cs,⟨h1.1,?_⟩,h2.keep (WI _ _) (fun k hk=>⟨QP hb hk.1,hk.2⟩)⟩;rcases h1.2 with h|⟨g,cap,aa,e,hg,r⟩
 ·exact .inl h
 exact .inr ⟨g,cap,aa,e,QP hb hg,r⟩
theorem Zi.base {w:World} {b b':Nat} {xs:List Int} {v:Value} (h:Zi w b xs v) (hb:b'<=b):Zi w b' xs v:=by
 refine⟨⟨h.1.1,?_⟩,h.2⟩;rcases h.1.2 with h|⟨g,cap,aa,e,hg,r⟩
 ·exact .inl h
 exact .inr ⟨g,cap,aa,e,QP hb hg,r⟩
theorem zFd {w w':World} {v:Value} {g:Nat} {xs:List Int} {u:Value} (h:Z0 w (fun k=>k=g) xs u) (hg:w.grownBy w' v.ownBlock) (h1:g<w.heap.size) (h2:some g≠v.ownBlock):Z0 w' (fun _=>True) xs u :=
 h.keep (S:=fun k=>k=g) (fun p hp=>World.cell?_of_block (hg.block p.block (by rw[hp];exact h1) (by rw[hp];exact h2))) (fun _ _=>trivial)
theorem Yk.fresh {w w2:World} {b b2:Nat} {xss yss:List (List Int)} {v v2:Value} (h:Yk w b xss v) (h2:Yk w2 b2 yss v2) (hb:b<=b2) (hw:w.heap.size<=b2):RQ w2 (Yj b w2 v) yss v2 :=
 h2.rows.keep (WI _ _) (fun k hk=>⟨QP hb hk.1,hk.2,fun e=>by have:=(h.own_lt k e.symm).2;omega⟩)
theorem zNs {w2:World} {b b2:Nat} {xs:List Int} {v u:Value} (hu:Zi w2 b2 xs u) (hb:b<=b2) (hv:∀k,v.ownBlock=some k->k<b2) (h2:b2<=w2.heap.size) (g:Nat) (hg:g=w2.heap.size) (e:TypeId) :
  RQ (w2.alloc (.cells #[u] e)) (Yj b (w2.alloc (.cells #[u] e)) v) [xs] (.slice (some ⟨g,0,none⟩) 1 1):=by
 subst hg;have hi:Z0 (w2.alloc (.cells #[u] e)) (Yj b (w2.alloc (.cells #[u] e)) v) xs u :=
  (hu.ints (S:=fun k=>b2<=k/\k<w2.heap.size) (fun k h1 h2=>⟨h1,h2⟩)).keep (fun p hp=>(Xx _ _).cell hp.2)
   (fun k hk=>⟨QP hb hk.1,by simp;omega,fun e=>by have:=hv k e.symm;omega⟩)
 refine⟨_,_,[u],rfl,QT _,by simp[maxLen],fun _=>⟨w2.heap.size,0,rfl,⟨by omega,by simp,fun e=>by have:=hv _ e.symm;omega⟩,fun j x hx=>?_⟩,ZK.single (E:=Xv ZF) ⟨u,rfl,hi⟩⟩;rw[Nat.zero_add,World.cell?_alloc_new];simpa using hx
section
variable {w:World} {b:Nat} {xss yss:List (List Int)} {v:Value}
theorem zI6 {w':World} {v':Value} {A:Option Addr} {m c:Nat} {cs rs:List Value} (h1:w.ownsRow b 25 1 v xss.length cs) (h2:ZK (Xv ZF) w (Yj b w v) xss cs) (aa:ZK (Xv ZF) w (Yj b w v) yss rs)
  (h3:w'.ownsRow b 25 1 v' (xss.length+yss.length) (cs++rs)) (h4:w.grownBy w' v.ownBlock) (h5:v'.ownBlock=v.ownBlock\/v'.ownBlock=some w.heap.size):Yk w' b (xss++yss) v':=by
 refine⟨cs++rs,by rw[List.length_append];exact h3,?_⟩;refine(h2.append aa).keep (S:=Yj b w v) (fun p hp=>World.cell?_of_block (h4.block p.block hp.2.1 hp.2.2)) (fun k hk=>⟨hk.1,QV hk.2.1 h4.size,?_⟩);rcases h5 with h5|h5
 ·rw[h5];exact hk.2.2
 rw[h5];intro e;injection e with e;have:=hk.2.1;omega
theorem zOa {ops:Array Oper} {rest:List Oper} {o:Oper} {a:Act} {Q:Exit->Act->World->Prop} (ax:o.guard=none) (s x:Operand)
  (ho:o.op=.call { callee:=.builtin .append,args:=#[s,x],argTypes:=#[93,93] })
  (b:Nat) (v:Value) (xss yss:List (List Int)) (hs:a.eval s=v) (aa:Yk w b xss v) (A:Option Addr) (m c:Nat) (hx:a.eval x=.slice A m c) (hr:RQ w (Yj b w v) yss (.slice A m c))
  (ag:xss.length+yss.length<=1000000000) (hb:b<=w.heap.size)
  (h:∀v' w',Yk w' b (xss++yss) v'->Below b w w'->wpList Tryz.prog ops Q rest (a.put o.dst v') w'):wpList Tryz.prog ops Q (o::rest) a w:=by
 obtain⟨i0,av,aj,ai,ah⟩:=info_parts zN5;obtain⟨A',cap',rs,e,h1,h2,ak,af⟩:=hr;injection e with e1 e2 e3
 subst e1 e2 e3;obtain⟨cs,ae,au⟩:=aa;have hl:=af.len;refine UG w ax s x 93 ho b 25 i0 _ 1 24 Tryz.underlying93 av aj ai ah rfl (by omega) v _ _ hs ae _ A _ c rs hx hl ak af.one (by simp only[maxLen];omega) (by omega) hb ?_;intro v' w' h3 h4 h5;exact h v' w' (zI6 (A:=A) (m:=0) (c:=0) ae au af h3 h4 h5) (WF _ ae h4 hb)
theorem zJ2 {ops:Array Oper} {o:Oper} {a:Act} {K:Act->World->Prop} {Q:Exit->Act->World->Prop} {E:Prop} (ax:o.guard=none) (s x:Operand)
  (ho:o.op=.call { callee:=.builtin .append,args:=#[s,x],argTypes:=#[93,93] })
  (b:Nat) (v:Value) (xss yss:List (List Int)) (hs:a.eval s=v) (aa:Yk w b xss v) (A:Option Addr) (m c:Nat) (hx:a.eval x=.slice A m c) (hr:RQ w (Yj b w v) yss (.slice A m c))
  (ag:xss.length+yss.length<=1000000000) (hb:b<=w.heap.size)
  (h:∀v' w',Yk w' b (xss++yss) v'->Below b w w'->K (a.put o.dst v') w') :
  if Region.wanted o (yielded ops a.tmps)=true then Oper.wp Tryz.prog o a w K Q else E:=by
 obtain⟨i0,av,aj,ai,ah⟩:=info_parts zN5;obtain⟨A',cap',rs,e,h1,h2,ak,af⟩:=hr;injection e with e1 e2 e3
 subst e1 e2 e3;obtain⟨cs,ae,au⟩:=aa;have hl:=af.len;refine Tj w ax s x 93 ho b 25 i0 _ 1 24 Tryz.underlying93 av aj ai ah rfl (by omega) v _ _ hs ae _ A _ c rs hx hl ak af.one (by simp only[maxLen];omega) (by omega) hb ?_;intro v' w' h3 h4 h5;exact h v' w' (zI6 (A:=A) (m:=0) (c:=0) ae au af h3 h4 h5) (WF _ ae h4 hb)
theorem RL {ops:Array Oper} {o:Oper} {a:Act} {K:Act->World->Prop} {Q:Exit->Act->World->Prop} {E:Prop} (au:o.guard=none) (s x:Operand)
  (ho:o.op=.call { callee:=.builtin .append,args:=#[s,x],argTypes:=#[25,25] })
  (b:Nat) (v:Value) (xs ys:List Int) (hs:a.eval s=v) (aa:Zi w b xs v) (S:Nat->Prop) (A:Option Addr) (m c:Nat) (hx:a.eval x=.slice A m c) (hr:Z0 w S ys (.slice A m c))
  (af:xs.length+ys.length<=1000000000) (hb:b<=w.heap.size)
  (h:∀v' w',Zi w' b (xs++ys) v'->Below b w w'->w.grownBy w' v.ownBlock->K (a.put o.dst v') w') :
  if Region.wanted o (yielded ops a.tmps)=true then Oper.wp Tryz.prog o a w K Q else E:=by
 obtain⟨i0,ak,ai,ah,ag⟩:=info_parts R9;obtain⟨A',cap',rs,e,h1,h2,aj,ae⟩:=hr;injection e with e1 e2 e3
 subst e1 e2 e3;have hl:=ae.len;have hp:=(VD.1 ae);refine Tj w au s x 25 ho b 3 i0 _ 1 8 Tryz.underlying25 ak ai ah ag rfl (by omega) v _ _ hs aa.1 S A _ c rs hx hl aj ae.one (by simp only[maxLen];omega) (by omega) hb ?_;intro v' w' h3 h4 h5;refine h v' w' ⟨?_,?_⟩ (WF _ aa.1 h4 hb) h4
 ·rw[List.length_append,List.map_append,<-hp.1];exact h3
 intro y hy;rcases List.mem_append.1 hy with hy|hy
 ·exact aa.2 y hy
 exact hp.2 y hy
end
theorem zQn (t:Z9):∀(w:World) (v:Value) (_:Z8 Z7 w (Lt w.heap.size) t.kids v) (_:ZW t<=1000000000),
  Calls Tryz.prog 62 #[.agg #[.int .i64 t.kind,.string t.text,.int .i64 t.cols,v]] w fun e w'=>e=.returned (.int .i64 (Y8 t))/\Below w.heap.size w w':=by
 induction t using Z9.ind with
 |h t ih =>
 obtain⟨tk,tx,tc,ts⟩:=t;intro w v hv hm;simp only[Z9.kind,Z9.text,Z9.cols,Z9.kids] at *;obtain⟨A,cap,rs,rfl,aD,ai,av,ax⟩:=hv;unfold maxLen at ai;have az:ts.length<=9223372036854775807:=by omega
 have H:Hid (Zl w (Lt w.heap.size) A rs/\ZK Z7 w (Lt w.heap.size) ts rs):=⟨av,ax⟩;have HC:Hid (Y8 (.mk tk tx tc ts)=YQ ts+1):=by show _=_;rw[Y8]
 have hcs:ZT ts<=1000000000:=by rw[ZW] at hm;omega
 clear av ax hm;go_enter Tryz.func62,Tryz.ntmps62
 go_wp2
 go_loopw [3,4] (fun o i wr=>Below w.heap.size w wr/\wr.cell? ⟨w.heap.size,3,none⟩=some (.slice A ts.length cap)/\w.heap.size<wr.heap.size/\∃(k:Nat),k<=ts.length/\i=.int .i64 k/\o=.int .i64 ((YQ (ts.take k):Nat):Int)) (fun _ i _=>ts.length-(intOf i).toNat)
 case atStart=>exact⟨(QQ _ _).alloc (QT _) _,World.cell?_alloc_new _ _ _ _,by simp,0,QU _,rfl,rfl⟩
 obtain⟨hb,hs,hz,k,hk,rfl,rfl⟩:=hrel;have hle:=Xy ts k;have aA:=zDs (ts.take k);by_cases ag:k<ts.length
 ·obtain⟨g,o,A',cap',ay,rfl,hg,c0,c1,c2,c3,_,_,_,aG,aF,aa,ae⟩:=Y5 (H.out.1.keep (Zy.of_below hb (QT _)) (Lt.mono hb.size)) (H.out.2.keep (Zy.of_below hb (QT _)) (Lt.mono hb.size)) ag;have ah:ts[k]∈ts:=List.getElem_mem ag;have aj:=Xy ts (k+1);have aC:=WV ag;have HT:=hid (zL2 ag);have aB:ZW ts[k]<=1000000000:=by omega
  have hdk:=zDl ts[k];have ak:Z8 Z7 wr (Lt wr.heap.size) ts[k].kids (.slice A' ts[k].kids.length cap'):=⟨A',cap',ay,rfl,aG,aF,aa,ae⟩;clear aC aj
  go_wp2_with fail
  refine(ih ts[k] ah wr _ ak aB).mono ?_;rintro e w1 ⟨rfl,af⟩;have au:w1.cell? ⟨w.heap.size,3,none⟩=some (.slice (some ⟨g,o,none⟩) ts.length cap):=((bcell af).1 _ _ hz).trans hs;clear ak aa ae c0 c1 c2 c3 hs;rcases Nat.lt_or_ge (YQ (ts.take k)) (Y8 ts[k]) with hd|hd
  ·have HM:Hid (max (YQ (ts.take k)) (Y8 ts[k])=Y8 ts[k]):=by show _=_;omega
   go_wp2_with fail
   go_roundw
   case rel=>exact⟨hb.trans (af.mono hb.size),au,by have:=af.size;omega,k+1,by omega,by go_num,by first|(rw[HT.out,HM.out];done)|(rw[HT.out];have h9:=HM.out;simp only[Value.int.injEq,true_and];omega)⟩
   case measure=>simp[intOf];omega
  have HM:Hid (max (YQ (ts.take k)) (Y8 ts[k])=YQ (ts.take k)):=by show _=_;omega
  go_wp2_with fail
  go_roundw
  case rel=>exact⟨hb.trans (af.mono hb.size),au,by have:=af.size;omega,k+1,by omega,by go_num,by first|(rw[HT.out,HM.out];done)|(rw[HT.out];have h9:=HM.out;simp only[Value.int.injEq,true_and];omega)⟩
  case measure=>simp[intOf];omega
 have HT:Hid (ts.take k=ts):=List.take_of_length_le (by omega);rw[HT.out];have HB:=hid hb;rw[HT.out] at aA;clear hb
 go_wp2_with fail
 go_ret;exact⟨by rw[HC.out];first|rfl|(simp;done),HB.out⟩
theorem qP (a:Act) (t:Tmp) (v:Value):a.put (some t) v={ a with tmps:=a.tmps.setIfInBounds t v }:=rfl
theorem qN (a:Act) (v:Value):a.put none v=a:=rfl
theorem qS {α:Type} (l:List α) (i:Nat) (x:α):l.toArray.setIfInBounds i x=(l.set i x).toArray:=by simp
theorem qZ {α:Type} (a x:α) (l:List α):(a::l).set 0 x=x::l:=rfl
theorem qC {α:Type} (a x:α) (l:List α) (i:Nat):(a::l).set (i+1) x=a::l.set i x:=rfl
