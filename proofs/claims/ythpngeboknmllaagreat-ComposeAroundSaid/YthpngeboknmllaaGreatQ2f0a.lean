/- T -/
import Derived.Test.YthpngeboknmllaaGreatQa26f
import Derived.Test.YthpngeboknmllaaGreatQde71
import Derived.Laws.CopyOwn
import Derived.Lib.Walk
import Derived.Lib.Strings
import Derived.Lib.Bytealg
import Derived.BigGuard
import Derived.BigFrame
import Derived.Lib.IndexLaws
import Derived.Laws.Strings3
set_option linter.unusedVariables false
set_option linter.unusedSimpArgs false
set_option maxHeartbeats 2000000
set_option maxRecDepth 100000
namespace Go.Proofs.YthpngeboknmllaaGreat
open Go.RowKit
theorem zK5 {P:Program} (w:World) (dT ty aa:TypeId) (sz g n:Nat) (a:Addr) (af:Nat) (ae:Array Value) (T:TypeId) (cs:List Value)
  (hu:P.underlying dT=some (.slice aa)) (hs:(P.info? aa).map (·.size)=some sz) (hg:w.heap[g]?=some (.cells ae T (0,0))) (hn:cs.length=n*sz)
  (ag:∀j v,cs[j]?=some v->w.cell? (a.add j)=some v) (ah:ae.size=cs.length) (h1:∀v∈cs,v.oneCell'=true) :
  (Builtin.copy_ #[dT,dT] ty #[.slice (some ⟨g,0,none⟩) n n,.slice (some a) n af]).run P w=.ok (goInt n) (w.setRow g cs.toArray):=by
 have hl:=run_loadCells_list (P:=P) w a cs ag;have ai:=run_storeCells_at P g 0 T cs 0 ae w hg (by omega) h1;simp only[Nat.add_zero,Nat.zero_add,List.take_zero,List.nil_append] at ai;have hd:ae.toList.drop cs.length=[]:=List.drop_of_length_le (by simp[ah]);cases hq:P.info? aa with
 |none=>simp[hq] at hs
 |
  some i =>
  have hi:i.size=sz:=by simpa[hq] using hs
  simp[Builtin.copy_,run_underlying hu,Builtin.lenOf,Builtin.firstCells,sizeOf,typeInfo,hq,hi,<-hn,hl,ai,hd]
theorem zE3 {P:Program} {w:World} {ops:Array Oper} {rest:List Oper} {o:Oper} {a:Act} {Q:Exit->Act->World->Prop} (ak:o.guard=none) (d s:Operand) (dT:TypeId)
  (ho:o.op=.call { callee:=.builtin .copy,args:=#[d,s],argTypes:=#[dT,dT] }) (aa:TypeId) (sz:Nat) (hu:P.underlying dT=some (.slice aa)) (hs:(P.info? aa).map (·.size)=some sz)
  (g n:Nat) (ad:Addr) (ae:Nat) (hd:a.eval d=.slice (some ⟨g,0,none⟩) n n) (aj:a.eval s=.slice (some ad) n ae) (ai:Array Value) (T:TypeId) (cs:List Value) (hg:w.heap[g]?=some (.cells ai T (0,0)))
  (hn:cs.length=n*sz) (af:∀j v,cs[j]?=some v->w.cell? (ad.add j)=some v) (ah:ai.size=cs.length) (h1:∀v∈cs,v.oneCell'=true)
  (h:wpList P ops Q rest (a.put o.dst (goInt n)) (w.setRow g cs.toArray)):wpList P ops Q (o::rest) a w:=by
 refine wpList_plain ak fun K hK=>?_
 have ag:=zK5 (P:=P) w dT o.type aa sz g n ad ae ai T cs hu hs hg hn af ah h1;unfold Oper.wp;simp[execOp,ho,resolve,invoke,builtin,hd,aj,ag,Result.andThen];exact hK _ _ h
theorem zEy {P:Program} {w:World} {ops:Array Oper} {rest:List Oper} {o:Oper} {a:Act} {Q:Exit->Act->World->Prop} (ag:o.guard=none) (d s:Operand) (dT:TypeId)
  (ho:o.op=.call { callee:=.builtin .copy,args:=#[d,s],argTypes:=#[dT,dT] }) (aa:TypeId) (sz:Nat) (hu:P.underlying dT=some (.slice aa)) (hs:(P.info? aa).map (·.size)=some sz)
  (A:Option Addr) (c c':Nat) (hd:a.eval d=.slice none 0 c') (af:a.eval s=.slice A 0 c)
  (h:wpList P ops Q rest (a.put o.dst (goInt 0)) w):wpList P ops Q (o::rest) a w:=by
 refine wpList_plain ag fun K hK=>?_
 have ae:(Builtin.copy_ #[dT,dT] o.type #[.slice none 0 c',.slice A 0 c]).run P w=.ok (goInt 0) w:=by
  cases hq:P.info? aa with
  |none=>simp[hq] at hs
  |
   some i =>
   have hl:∀ad:Addr,(loadCells ad 0).run P w=.ok #[] w:=fun ad=>by simpa using run_loadCells_list (P:=P) w ad [] (fun j v h=>by simp at h)
   cases A<;>simp[Builtin.copy_,run_underlying hu,Builtin.lenOf,Builtin.firstCells,sizeOf,typeInfo,hq,hl]
 unfold Oper.wp;simp[execOp,ho,resolve,invoke,builtin,hd,af,ae,Result.andThen];exact hK _ _ h
def WP (x:YP):Value:=.pointer (some ⟨x.1,x.2.1,none⟩)
def Tu (w:World) (B:Nat) (e:TypeId) (v:Value) (P:List YP):Prop:=w.ownsRow B e 1 v P.length (P.map WP)
theorem Tu.top {w:World} {B:Nat} {e:TypeId} {v:Value} {P:List YP} {x:YP} (h:Tu w B e v (P++[x])):∃g cap,v=.slice (some ⟨g,0,none⟩) (P.length+1) cap/\B<=g/\g<w.heap.size/\P.length+1<=cap/\cap<=maxLen/\w.cell? ⟨g,P.length,none⟩=some (WP x)/\Tu w B e (.slice (some ⟨g,0,none⟩) P.length cap) P:=by
 obtain⟨hl,h2⟩:=h;rcases h2 with ⟨_,h0⟩|⟨g,cap,aa,rfl,hg,hh,h3,h4,h5,h6⟩
 ·simp at h0
 simp only[List.length_append,List.length_cons,List.length_nil,Nat.mul_one,List.map_append,List.map_cons,List.map_nil] at h3 h6 ⊢;have h7:aa.toList.take P.length=P.map WP:=by
  have:=congrArg (List.take P.length) h6;rw[List.take_take,Nat.min_eq_left (by omega),List.take_append_of_le_length (by simp)] at this;rw[this];exact List.take_of_length_le (by simp)
 have h8:aa.toList[P.length]?=some (WP x):=by
  have:=congrArg (·[P.length]?) h6;simp only[List.getElem?_take] at this;rw[if_pos (by omega)] at this;rw[this,List.getElem?_append_right (by simp)];simp
 refine⟨g,cap,rfl,hg,(Array.getElem?_eq_some_iff.1 hh).1,by omega,h4,?_,by simp,.inr ⟨g,cap,aa,rfl,hg,hh,by omega,h4,h5,by simpa using h7⟩⟩;rw[cell_of_row w g P.length aa e (0,0) hh];simpa using h8
theorem SI (s:ByteArray) (w:World):Calls Tryz.prog 121 #[.string s] w fun e w'=>e=.returned (.bool s.toList.isEmpty)/\w=w':=by
 cases hq:s.toList.isEmpty
 all_goals
  go_enter Tryz.func121,Tryz.ntmps121
  go_wp2_with fail
  go_ret;exact⟨rfl,rfl⟩
theorem Vh (s:ByteArray) (w:World) (hs:s.size<=maxLen) :
  Calls Tryz.prog 153 #[.string s] w fun e w'=>e=.returned (.bool ((bytes s).all YF&&!s.toList.isEmpty))/\w=w':=by
 unfold maxLen at hs;go_enter Tryz.func153,Tryz.ntmps153
 go_wp2
 go_loop [3] (fun i=>∃k:Nat,k<=s.size/\i=.int .i64 k/\((bytes s).drop k).all YF=(bytes s).all YF) (fun i=>s.size-(intOf i).toNat)
 case atStart=>exact⟨0,QU _,rfl,rfl⟩
 obtain⟨k,hk,rfl,aa⟩:=hrel;have HR:=hid aa;clear aa;by_cases ae:k<s.size
 ·have HN:=hid (TP s k ae);by_cases h1:(s[k].toNat:Int)<48
  ·have HF:Hid ((bytes s).all YF=false):=by show _=_;rw[<-HR.out,HN.out,List.all_cons,YF,decide_eq_false (by omega)];rfl
   go_wp2
   go_ret;exact⟨by rw[HF.out];rfl,rfl⟩
  have d1:decide ((s[k].toNat:Int)<48)=false:=by simpa using h1
  by_cases h2:57<(s[k].toNat:Int)
  ·have HF:Hid ((bytes s).all YF=false):=by show _=_;rw[<-HR.out,HN.out,List.all_cons,YF,decide_eq_false (by omega)];rfl
   go_wp2
   go_ret;exact⟨by rw[HF.out];rfl,rfl⟩
  have d2:decide (57<(s[k].toNat:Int))=false:=by simpa using h2
  have HF:Hid (((bytes s).drop (k+1)).all YF=(bytes s).all YF):=by show _=_;rw[<-HR.out,HN.out,List.all_cons,YF,decide_eq_true (show 48<=(s[k].toNat:Int)/\(s[k].toNat:Int)<=57 by omega)];rfl
  go_wp2
  go_round
  case rel=>exact⟨k+1,by omega,by go_num,HF.out⟩
  case measure=>simp[intOf];omega
 have HF:Hid ((bytes s).all YF=true):=by show _=_;rw[<-HR.out,SF s k ae];rfl
 cases hq:s.toList.isEmpty
 all_goals
  go_wp2
  go_ret;exact⟨by first|rfl|(rw[HF.out];rfl),rfl⟩
def Us (s:ByteArray):Bool:=decide (s.size<=200)&&Yd (bytes s)
theorem Ut (s:ByteArray) (w:World) (hs:s.size<=maxLen) :
  Calls Tryz.prog 124 #[.string s] w fun e w'=>e=.returned (.bool (Us s))/\w=w':=by
 unfold maxLen at hs;go_enter Tryz.func124,Tryz.ntmps124
 go_wp2
 go_loop [3] (fun i=>∃k:Nat,k<=s.size/\i=.int .i64 k/\Yd ((bytes s).drop k)=Yd (bytes s)) (fun i=>s.size-(intOf i).toNat)
 case atStart=>exact⟨0,QU _,rfl,rfl⟩
 obtain⟨k,hk,rfl,aa⟩:=hrel;have HR:=hid aa;clear aa;by_cases ae:k<s.size
 ·have HN:=hid (TP s k ae);by_cases h1:(s[k].toNat:Int)<32
  ·have HF:Hid (Us s=false):=by show _=_;rw[Us,<-HR.out,HN.out,Yd,List.all_cons,decide_eq_false (show ¬(32<=(s[k].toNat:Int)/\(s[k].toNat:Int)<=126) by omega)];simp
   go_wp2
   go_ret;exact⟨by rw[HF.out];rfl,rfl⟩
  have d1:decide ((s[k].toNat:Int)<32)=false:=by simpa using h1
  by_cases h2:126<(s[k].toNat:Int)
  ·have HF:Hid (Us s=false):=by show _=_;rw[Us,<-HR.out,HN.out,Yd,List.all_cons,decide_eq_false (show ¬(32<=(s[k].toNat:Int)/\(s[k].toNat:Int)<=126) by omega)];simp
   go_wp2
   go_ret;exact⟨by rw[HF.out];rfl,rfl⟩
  have d2:decide (126<(s[k].toNat:Int))=false:=by simpa using h2
  have HF:Hid (Yd ((bytes s).drop (k+1))=Yd (bytes s)):=by show _=_;rw[<-HR.out,HN.out,Yd,Yd,List.all_cons,decide_eq_true (show 32<=(s[k].toNat:Int)/\(s[k].toNat:Int)<=126 by omega)];rfl
  go_wp2
  go_round
  case rel=>exact⟨k+1,by omega,by go_num,HF.out⟩
  case measure=>simp[intOf];omega
 have HP:Hid (Yd (bytes s)=true):=by show _=_;rw[<-HR.out,SF s k ae];rfl
 by_cases h3:s.size<=200
 ·have HF:Hid (Us s=true):=by show _=_;rw[Us,HP.out,decide_eq_true h3];rfl
  go_wp2
  go_ret;exact⟨by rw[HF.out];first|done|rfl|(simp;omega),rfl⟩
 have HF:Hid (Us s=false):=by show _=_;rw[Us,HP.out,decide_eq_false h3];rfl
 have d3:decide ((s.size:Int)<=200)=false:=by simp;omega
 go_wp2
 go_ret;exact⟨by rw[HF.out];first|done|rfl|(simp;omega),rfl⟩
theorem or32:∀n:Fin 256,Y1 (n.val:Int)=decide (97<=bits BinOp.or IntKind.u8 (n.val:Int) 32/\bits BinOp.or IntKind.u8 (n.val:Int) 32<=122):=by decide +kernel
theorem Rs (b:UInt8):Y1 (b.toNat:Int)=decide (97<=bits BinOp.or IntKind.u8 (b.toNat:Int) 32/\bits BinOp.or IntKind.u8 (b.toNat:Int) 32<=122):=or32 ⟨b.toNat,b.toNat_lt⟩
theorem zLk (s:ByteArray) (w:World) (hs:s.size<=maxLen) :
  Calls Tryz.prog 149 #[.string s] w fun e w'=>e=.returned (.bool ((bytes s).all Y1))/\w=w':=by
 unfold maxLen at hs;go_enter Tryz.func149,Tryz.ntmps149
 go_wp2
 go_loop [3] (fun i=>∃k:Nat,k<=s.size/\i=.int .i64 k/\((bytes s).drop k).all Y1=(bytes s).all Y1) (fun i=>s.size-(intOf i).toNat)
 case atStart=>exact⟨0,QU _,rfl,rfl⟩
 obtain⟨k,hk,rfl,aa⟩:=hrel;have HR:=hid aa;clear aa;by_cases ae:k<s.size
 ·have HN:=hid (TP s k ae);have HO:=hid (Rs s[k]);by_cases h1:bits BinOp.or IntKind.u8 (s[k].toNat:Int) 32<97
  ·have HF:Hid ((bytes s).all Y1=false):=by show _=_;rw[<-HR.out,HN.out,List.all_cons,HO.out,decide_eq_false (by omega)];rfl
   go_wp2
   go_ret;exact⟨by rw[HF.out];rfl,rfl⟩
  have d1:decide (bits BinOp.or IntKind.u8 (s[k].toNat:Int) 32<97)=false:=by simpa using h1
  by_cases h2:122<bits BinOp.or IntKind.u8 (s[k].toNat:Int) 32
  ·have HF:Hid ((bytes s).all Y1=false):=by show _=_;rw[<-HR.out,HN.out,List.all_cons,HO.out,decide_eq_false (by omega)];rfl
   go_wp2
   go_ret;exact⟨by rw[HF.out];rfl,rfl⟩
  have d2:decide (122<bits BinOp.or IntKind.u8 (s[k].toNat:Int) 32)=false:=by simpa using h2
  have HF:Hid (((bytes s).drop (k+1)).all Y1=(bytes s).all Y1):=by show _=_;rw[<-HR.out,HN.out,List.all_cons,HO.out,decide_eq_true (by omega)];rfl
  go_wp2
  go_round
  case rel=>exact⟨k+1,by omega,by go_num,HF.out⟩
  case measure=>simp[intOf];omega
 have HF:Hid ((bytes s).all Y1=true):=by show _=_;rw[<-HR.out,SF s k ae];rfl
 go_wp2
 go_ret;exact⟨by rw[HF.out];rfl,rfl⟩
theorem XR {s t:ByteArray} (h:s.toList=t.toList):s=t:=by
 rw[Lib.toList_data,Lib.toList_data] at h;exact ByteArray.ext (Array.toList_inj.1 h)
theorem zNm:∀x∈X5,YO X5 x=true:=by decide +kernel
theorem zOb (s:ByteArray) (w:World):Calls Tryz.prog 125 #[.string s] w fun e w'=>e=.returned (.bool (YO X5 s))/\w=w':=by
 by_cases h:s∈X5
 ·have HF:=hid (zNm s h);rw[HF.out];clear HF;unfold X5 at h;simp only[List.mem_cons,List.not_mem_nil,or_false] at h;rcases h with rfl|rfl|rfl|rfl|rfl|rfl
  all_goals
   go_enter Tryz.func125,Tryz.ntmps125
   go_wp2
   go_ret;exact⟨rfl,rfl⟩
 have HF:Hid (YO X5 s=false):=by
  show _=_;unfold YO;rw[List.any_eq_false];intro x hx aa;exact h (by have:=XR (beq_iff_eq.1 aa);rw[<-this];exact hx)
 rw[HF.out];unfold X5 at h;simp only[List.mem_cons,List.not_mem_nil,or_false,not_or] at h;obtain⟨n0,n1,n2,n3,n4,n5⟩:=h;have m0:(s.toList==[104,97,116])=false:=by rw[beq_eq_false_iff_ne];intro e;exact n0 (XR (e.trans (by decide +kernel)))
 have l0:([104,97,116]==s.toList)=false:=by rw[beq_eq_false_iff_ne];intro e;exact n0 (XR (e.symm.trans (by decide +kernel)))
 have m1:(s.toList==[98,97,114])=false:=by rw[beq_eq_false_iff_ne];intro e;exact n1 (XR (e.trans (by decide +kernel)))
 have l1:([98,97,114]==s.toList)=false:=by rw[beq_eq_false_iff_ne];intro e;exact n1 (XR (e.symm.trans (by decide +kernel)))
 have m2:(s.toList==[118,101,99])=false:=by rw[beq_eq_false_iff_ne];intro e;exact n2 (XR (e.trans (by decide +kernel)))
 have l2:([118,101,99]==s.toList)=false:=by rw[beq_eq_false_iff_ne];intro e;exact n2 (XR (e.symm.trans (by decide +kernel)))
 have m3:(s.toList==[100,111,116])=false:=by rw[beq_eq_false_iff_ne];intro e;exact n3 (XR (e.trans (by decide +kernel)))
 have l3:([100,111,116]==s.toList)=false:=by rw[beq_eq_false_iff_ne];intro e;exact n3 (XR (e.symm.trans (by decide +kernel)))
 have m4:(s.toList==[116,105,108,100,101])=false:=by rw[beq_eq_false_iff_ne];intro e;exact n4 (XR (e.trans (by decide +kernel)))
 have l4:([116,105,108,100,101]==s.toList)=false:=by rw[beq_eq_false_iff_ne];intro e;exact n4 (XR (e.symm.trans (by decide +kernel)))
 have m5:(s.toList==[99,104,101,99,107])=false:=by rw[beq_eq_false_iff_ne];intro e;exact n5 (XR (e.trans (by decide +kernel)))
 have l5:([99,104,101,99,107]==s.toList)=false:=by rw[beq_eq_false_iff_ne];intro e;exact n5 (XR (e.symm.trans (by decide +kernel)))
 clear n0 n1 n2 n3 n4 n5;go_enter Tryz.func125,Tryz.ntmps125
 go_wp2
 go_ret;exact⟨rfl,rfl⟩
theorem zLq:∀x∈Xp,YO Xp x=true:=by decide +kernel
theorem zQc (s:ByteArray) (w:World):Calls Tryz.prog 151 #[.string s] w fun e w'=>e=.returned (.bool (YO Xp s))/\w=w':=by
 by_cases h:s∈Xp
 ·have HF:=hid (zLq s h);rw[HF.out];clear HF;unfold Xp at h;simp only[List.mem_cons,List.not_mem_nil,or_false] at h;rcases h with rfl|rfl|rfl|rfl
  all_goals
   go_enter Tryz.func151,Tryz.ntmps151
   go_wp2
   go_ret;exact⟨rfl,rfl⟩
 have HF:Hid (YO Xp s=false):=by
  show _=_;unfold YO;rw[List.any_eq_false];intro x hx aa;exact h (by have:=XR (beq_iff_eq.1 aa);rw[<-this];exact hx)
 rw[HF.out];unfold Xp at h;simp only[List.mem_cons,List.not_mem_nil,or_false,not_or] at h;obtain⟨n0,n1,n2,n3⟩:=h;have m0:(s.toList==[102,114,97,99])=false:=by rw[beq_eq_false_iff_ne];intro e;exact n0 (XR (e.trans (by decide +kernel)))
 have l0:([102,114,97,99]==s.toList)=false:=by rw[beq_eq_false_iff_ne];intro e;exact n0 (XR (e.symm.trans (by decide +kernel)))
 have m1:(s.toList==[114,111,111,116])=false:=by rw[beq_eq_false_iff_ne];intro e;exact n1 (XR (e.trans (by decide +kernel)))
 have l1:([114,111,111,116]==s.toList)=false:=by rw[beq_eq_false_iff_ne];intro e;exact n1 (XR (e.symm.trans (by decide +kernel)))
 have m2:(s.toList==[109,97,116,114,105,120])=false:=by rw[beq_eq_false_iff_ne];intro e;exact n2 (XR (e.trans (by decide +kernel)))
 have l2:([109,97,116,114,105,120]==s.toList)=false:=by rw[beq_eq_false_iff_ne];intro e;exact n2 (XR (e.symm.trans (by decide +kernel)))
 have m3:(s.toList==[102,101,110,99,101])=false:=by rw[beq_eq_false_iff_ne];intro e;exact n3 (XR (e.trans (by decide +kernel)))
 have l3:([102,101,110,99,101]==s.toList)=false:=by rw[beq_eq_false_iff_ne];intro e;exact n3 (XR (e.symm.trans (by decide +kernel)))
 clear n0 n1 n2 n3;go_enter Tryz.func151,Tryz.ntmps151
 go_wp2
 go_ret;exact⟨rfl,rfl⟩
theorem zH9 (s:ByteArray) (c:Int) (w:World) :
  Calls Tryz.prog 170 #[.string s,.int .u8 c] w fun e w'=>e=.returned (.int .i64 (Lib.indexByte s.data.toList c.toNat.toUInt8))/\w'=w:=by
 go_enter Tryz.func170,Tryz.ntmps170
 go_wp2
 rw[run_callFunc_extern Tryz.func176 (by kernel_rfl) (by kernel_rfl) (by kernel_rfl) (e:=Extern.BytealgIndexByte.indexByte) (by kernel_rfl),Lib.run_indexByteString];simp only[Result.andThen];rw[Oper.upon_value]
 go_wp2
 go_ret;exact⟨rfl,rfl⟩
theorem zEc (s:ByteArray) (c:Int) (w:World) :
  Calls Tryz.prog 154 #[.string s,.int .u8 c] w fun e w'=>e=.returned (.int .i64 (Lib.indexByte s.data.toList c.toNat.toUInt8))/\w'=w:=by
 go_enter Tryz.func154,Tryz.ntmps154
 go_wp2_with fail
 refine(zH9 _ _ _).mono ?_;rintro e w' ⟨rfl,rfl⟩
 go_wp2_with fail
 go_ret;exact⟨rfl,rfl⟩
theorem zLs (s:ByteArray) (c:UInt8) (w:World) :
  Calls Tryz.prog 175 #[.string s,.string ⟨#[c]⟩] w fun e w'=>e=.returned (.int .i64 (Lib.indexByte s.data.toList c))/\w'=w:=by
 go_enter Tryz.func175,Tryz.ntmps175
 go_wp2_with (go_at_call 170;refine(zH9 _ _ _).mono ?_;rintro e w' ⟨rfl,rfl⟩)
 ·have h:([c]==s.toList)=true:=by assumption
  go_ret;refine⟨?_,rfl⟩;have e:s.data.toList=[c]:=by rw[<-Lib.toList_data];exact(beq_iff_eq.1 h).symm
  rw[e];simp[Lib.indexByte]
 go_ret;exact⟨rfl,rfl⟩
theorem zKx (s:ByteArray) (c:UInt8) (w:World) :
  Calls Tryz.prog 168 #[.string s,.string ⟨#[c]⟩] w fun e w'=>e=.returned (.int .i64 (Lib.indexByte s.data.toList c))/\w'=w:=by
 go_enter Tryz.func168,Tryz.ntmps168
 go_wp2_with fail
 refine(zLs _ _ _).mono ?_;rintro e w' ⟨rfl,rfl⟩
 go_wp2_with fail
 go_ret;exact⟨rfl,rfl⟩
theorem zL4 (s:ByteArray) (c:UInt8) (w:World) :
  Calls Tryz.prog 150 #[.string s,.string ⟨#[c]⟩] w fun e w'=>e=.returned (.bool (decide (0<=Lib.indexByte s.data.toList c)))/\w'=w:=by
 have HC:=hid (zKx s c w);generalize Lib.indexByte s.data.toList c=i at *;by_cases h:0<=i
 ·rw[decide_eq_true h];go_enter Tryz.func150,Tryz.ntmps150
  go_wp2_with fail
  refine HC.out.mono ?_;rintro e w' ⟨rfl,rfl⟩
  go_wp2_with fail
  go_ret;exact⟨rfl,rfl⟩
 rw[decide_eq_false h];have hd:decide (0<=i)=false:=decide_eq_false h;go_enter Tryz.func150,Tryz.ntmps150
 go_wp2_with fail
 refine HC.out.mono ?_;rintro e w' ⟨rfl,rfl⟩
 go_wp2_with fail
 go_ret;exact⟨by first|rfl|(simp;done)|(simp;omega),rfl⟩
def zVw (w:World) (s:ByteArray) (e:Ending) (w':World):Prop :=
 (∃n,w'=w.drewN n)/\((Lib.indexByte s.data.toList 46=-1/\e=.returned (.tuple #[.string s,.string ⟨#[]⟩,.bool false])) \/
  ∃i:Nat,Lib.indexByte s.data.toList 46=i/\i<s.size/\e=.returned (.tuple #[.string (s.extract 0 i),.string (s.extract (i+1) s.size),.bool true]))
theorem zE7 (s:ByteArray) (c:UInt8):Lib.indexByte s.data.toList c=-1\/∃i:Nat,Lib.indexByte s.data.toList c=i/\i<s.size:=by
 have h:=Lib.indexByte_ge s.data.toList c;by_cases h1:Lib.indexByte s.data.toList c=-1
 ·exact .inl h1
 refine .inr ⟨(Lib.indexByte s.data.toList c).toNat,by omega,?_⟩;have:=(Lib.indexByte_some (l:=s.data.toList) (c:=c) (o:=(Lib.indexByte s.data.toList c).toNat) (by omega)).1;have h3:=(List.getElem?_eq_some_iff.1 this).1;simpa using h3
theorem Ub (s:ByteArray) (w:World) (hs:s.size<=maxLen):Calls Tryz.prog 169 #[.string s,.string ⟨#[46]⟩] w (zVw w s):=by
 have HI:=hid (zLs s 46 w);unfold maxLen at hs;rcases zE7 s 46 with hi|⟨i,hi,aa⟩
 ·have HE:=hid hi;rw[hi] at HI;clear hi;go_enter Tryz.func169,Tryz.ntmps169
  go_wp2_with fail
  refine HI.out.mono ?_;rintro e w' ⟨rfl,rfl⟩
  go_wp2_with fail
  go_ret3
  exact⟨⟨0,rfl⟩,.inl ⟨HE.out,rfl⟩⟩
 have HE:=hid hi;rw[hi] at HI;clear hi;have c1:(0:Int)<=↑i:=by omega
 have c2:(↑i:Int)<=↑s.size:=by omega
 have c3:(0:Int)<=↑i+1:=by omega
 have c4:(↑i+1:Int)<=↑s.size:=by omega
 go_enter Tryz.func169,Tryz.ntmps169
 go_wp2_with fail
 refine HI.out.mono ?_;rintro e w' ⟨rfl,rfl⟩
 go_wp2_with fail
 go_region
 go_wp2
 go_ret3
 exact⟨⟨1,rfl⟩,.inr ⟨i,HE.out,aa,rfl⟩⟩
theorem zIz (s:ByteArray) (w:World) (hs:s.size<=maxLen):Calls Tryz.prog 152 #[.string s,.string ⟨#[46]⟩] w (zVw w s):=by
 have HI:=hid (Ub s w hs);go_enter Tryz.func152,Tryz.ntmps152
 go_wp2_with fail
 refine HI.out.mono ?_;rintro e w' ⟨⟨n,rfl⟩,(⟨hi,rfl⟩|⟨i,hi,aa,rfl⟩)⟩
 ·have HE:=hid hi;clear hi
  go_wp2_with fail
  go_ret3
  exact⟨⟨n,rfl⟩,.inl ⟨HE.out,rfl⟩⟩
 have HE:=hid hi;clear hi
 go_wp2_with fail
 go_ret3
 exact⟨⟨n,rfl⟩,.inr ⟨i,HE.out,aa,rfl⟩⟩
def digs (l:List Int):Bool:=l.all YF&&!l.isEmpty
theorem zKg (n:Nat):∀(l:List Int) (k p:Nat),(46:Int) ∉ l->Yh n l k p=if l.all YF=true then some p else none
 |[],k,p,_=>by simp[Yh]
 |
  c::l,k,p,h=>by
  simp only[List.mem_cons,not_or] at h;rw[Yh,if_neg (fun e=>h.1 e.1.symm),List.all_cons];cases hd:YF c with
  |true=>rw[if_pos rfl,zKg n l _ _ h.2];simp
  |false=>simp
theorem zLh (n:Nat) (b:List Int):∀(a:List Int) (k p:Nat),(46:Int) ∉ a->Yh n (a++46::b) k p=if a.all YF=true/\0<k+a.length/\k+a.length+1<n then Yh n b (k+a.length+1) (p+1) else none
 |
  [],k,p,_=>by
  rw[List.nil_append,Yh];by_cases h:0<k/\k+1<n
  ·rw[if_pos ⟨rfl,h⟩,if_pos ⟨rfl,by simpa using h⟩];simp
  rw[if_neg (fun e=>h e.2),if_neg (by decide),if_neg (fun e=>h (by simpa using e.2))]
 |
  c::a,k,p,h=>by
  simp only[List.mem_cons,not_or] at h;rw[List.cons_append,Yh,if_neg (fun e=>h.1 e.1.symm),List.all_cons];cases hd:YF c with
  |
   true =>
   rw[if_pos rfl,zLh n b a _ _ h.2,List.length_cons,Bool.true_and,show k+1+a.length=k+(a.length+1) by omega]
  |false=>simp
theorem zHy (n:Nat):∀(l:List Int) (k p:Nat),1<=p->(∃q,Yh n l k p=some q/\q<=1)->p<=1/\l.all YF=true
 |[],k,p,hp,⟨q,h,hq⟩=>by simp[Yh] at h;subst h;exact⟨hq,rfl⟩
 |
  c::l,k,p,hp,⟨q,h,hq⟩=>by
  rw[Yh] at h;split at h
  ·have:=(zHy n l (k+1) (p+1) (by omega) ⟨q,h,hq⟩).1;omega
  split at h
  ·rename_i hd;have:=zHy n l (k+1) p hp ⟨q,h,hq⟩;exact⟨this.1,by rw[List.all_cons,hd,this.2];rfl⟩
  cases h
theorem zG7 {l:List Int} (h:l.all YF=true):(46:Int) ∉ l:=by
 intro hm;rw[List.all_eq_true] at h;exact absurd (h _ hm) (by decide)
theorem zGg (s:ByteArray) (a b:Nat):bytes (s.extract a b)=((bytes s).drop a).take (b-a):=by
 unfold bytes;rw[Lib.extract_data,List.map_take,List.map_drop]
theorem zHx (s:ByteArray) (h:Lib.indexByte s.data.toList 46=-1):Wt s=(decide (s.size<=20)&&digs (bytes s)):=by
 have ae:(46:Int) ∉ bytes s:=by
  intro hm;unfold bytes at hm;obtain⟨b,hb,e⟩:=List.mem_map.1 hm;obtain⟨k,hk⟩:=List.getElem?_of_mem hb;have aa:b=46:=by
   have:b.toNat=46:=by omega
   exact UInt8.toNat_inj.1 this
  exact Lib.indexByte_none h k (by rw[hk,aa])
 unfold Wt;rw[zKg _ _ _ _ ae,digs];have hl:=RS s;cases ha:(bytes s).all YF with
 |false=>simp
 |
  true =>
  rw[if_pos rfl];show decide (0<s.size/\s.size<=20/\0<=1)=_;by_cases h0:s.size=0
  ·have:bytes s=[]:=List.eq_nil_of_length_eq_zero (by omega);rw[this];simp[h0]
  have:(bytes s).isEmpty=false:=by rw[List.isEmpty_eq_false_iff];intro e;rw[e] at hl;simp at hl;omega
  rw[this,Bool.eq_iff_iff];simp;omega
theorem zHw (s:ByteArray) (i:Nat) (h:Lib.indexByte s.data.toList 46=i) (hi:i<s.size) :
  Wt s=(decide (s.size<=20)&&(digs (bytes (s.extract 0 i))&&digs (bytes (s.extract (i+1) s.size)))):=by
 have hl:=RS s;obtain⟨g1,g2⟩:=Lib.indexByte_some h;have ae:bytes s=(bytes s).take i++46::(bytes s).drop (i+1):=by
  conv=>lhs;rw[<-List.take_append_drop i (bytes s)]
  rw[TP s i hi];have:(s[i].toNat:Int)=46:=by
   have hx:s.data.toList[i]?=some s[i]:=by rw[List.getElem?_eq_getElem (by simpa using hi)];rfl
   rw[hx] at g1;injection g1 with g1;rw[g1];rfl
  rw[this]
 have aj:(46:Int) ∉ (bytes s).take i:=by
  intro hm;obtain⟨k,hk⟩:=List.getElem?_of_mem hm;rw[List.getElem?_take] at hk;split at hk
  ·rename_i ah;unfold bytes at hk;rw[List.getElem?_map] at hk;obtain⟨b,hb,e⟩:=Option.map_eq_some_iff.1 hk;have ai:b=46:=by
    have:b.toNat=46:=by omega
    exact UInt8.toNat_inj.1 this
   exact g2 k ah (by rw[hb,ai])
  cases hk
 rw[zGg,zGg,List.drop_zero,Nat.sub_zero,List.take_of_length_le (l:=(bytes s).drop (i+1)) (by rw[List.length_drop,hl];omega)];generalize hb:(bytes s).drop (i+1)=b at *;have af:b.length=s.size-(i+1):=by rw[<-hb,List.length_drop,hl]
 have aa:((bytes s).take i).length=i:=by rw[List.length_take,hl];omega
 generalize ha:(bytes s).take i=a at *;unfold Wt;rw[ae,zLh _ _ _ _ _ aj,aa];have ea:a.isEmpty=decide (i=0):=by rw[Bool.eq_iff_iff,List.isEmpty_iff_length_eq_zero,aa];simp
 have eb:b.isEmpty=decide (¬i+1<s.size):=by rw[Bool.eq_iff_iff,List.isEmpty_iff_length_eq_zero,af];simp;omega
 unfold digs;rw[ea,eb];by_cases hc:a.all YF=true/\0<0+i/\0+i+1<s.size
 ·rw[if_pos hc];obtain⟨c1,c2,c3⟩:=hc;rw[c1,decide_eq_false (show ¬i=0 by omega),decide_eq_false (show ¬¬i+1<s.size by omega)];cases hbd:b.all YF with
  |
   true =>
   rw[zKg _ _ _ _ (zG7 hbd),if_pos hbd];show decide (0<s.size/\s.size<=20/\0+1<=1)=_;rw[Bool.eq_iff_iff];simp;omega
  |
   false =>
   have ag:¬∃q,Yh s.size b (0+i+1) (0+1)=some q/\q<=1:=fun h=>by
    have:=(zHy _ _ _ _ (by omega) h).2;rw[hbd] at this;cases this
   cases hq:Yh s.size b (0+i+1) (0+1) with
   |none=>simp
   |
    some q =>
    have:¬q<=1:=fun h=>ag ⟨q,hq,h⟩
    show decide (0<s.size/\s.size<=20/\q<=1)=_;rw[decide_eq_false (fun e=>this e.2.2)];simp
 rw[if_neg hc];show false=_;symm;rw[Bool.eq_false_iff];intro h;simp only[Bool.and_eq_true,Bool.not_eq_true',decide_eq_true_eq,decide_eq_false_iff_not] at h;exact hc ⟨h.2.1.1,by omega,by omega⟩
theorem Ue (s:ByteArray):digs (bytes s)=((bytes s).all YF&&!s.toList.isEmpty):=by
 unfold digs;congr 2;rw[Lib.toList_data];unfold bytes;rw[Bool.eq_iff_iff];simp
theorem zPj:∀n:Fin 256,decide (0<=Lib.indexByte [43,45,42,47,61,60,62,44,59,58,33,124,39,63,126,64] (UInt8.ofNat n.val))=Zn (bytes WS) (n.val:Int):=by decide +kernel
theorem zO0:∀n:Fin 256,decide (0<=Lib.indexByte [40,41,91,93,123,125,60,62,47,124,46] (UInt8.ofNat n.val))=Zn (bytes XH) (n.val:Int):=by decide +kernel
theorem zOi (c:UInt8):decide (0<=Lib.indexByte [43,45,42,47,61,60,62,44,59,58,33,124,39,63,126,64] c)=Zn (bytes WS) (c.toNat:Int):=by
 have:=zPj ⟨c.toNat,c.toNat_lt⟩;simpa using this
theorem zIi (c:UInt8):decide (0<=Lib.indexByte [40,41,91,93,123,125,60,62,47,124,46] (((c.toNat:Int)).toNat.toUInt8))=Zn (bytes XH) (c.toNat:Int):=by
 have:=zO0 ⟨c.toNat,c.toNat_lt⟩;simpa using this
theorem VO (s:ByteArray) (h:s.size=1):∃c,s=⟨#[c]⟩:=by
 obtain⟨⟨l⟩⟩:=s
 match l,h with
 |[c],_=>exact⟨c,rfl⟩
theorem zP8 (s:ByteArray) (w:World) (hs:s.size<=maxLen) :
  Calls Tryz.prog 122 #[.string s] w fun e w'=>e=.returned (.bool (WX s))/\w=w':=by
 by_cases h1:s.size=1
 ·obtain⟨c,rfl⟩:=VO s h1;have HL:=hid (zLk ⟨#[c]⟩ w hs);have HC:=hid (zL4 WS c w);have e1:(bytes ⟨#[c]⟩).all Y1=Y1 (c.toNat:Int):=by simp[bytes]
  have e2:decide (0<=Lib.indexByte WS.data.toList c)=Zn (bytes WS) (c.toNat:Int):=zOi c;have HF:Hid (WX ⟨#[c]⟩=(Y1 (c.toNat:Int) || Zn (bytes WS) (c.toNat:Int))):=by
   show _=_;unfold WX;rw[if_pos h1];simp[Rb,bytes]
  rw[e1] at HL;rw[e2] at HC;rw[HF.out];clear e1 e2 HF h1;generalize Y1 (c.toNat:Int)=b1 at *;generalize Zn (bytes WS) (c.toNat:Int)=b2 at *;unfold WS at HC;cases b1<;>cases b2
  all_goals
   go_enter Tryz.func122,Tryz.ntmps122
   go_wp2_with fail
   refine HL.out.mono ?_;rintro e w' ⟨rfl,rfl⟩
   go_wp2_with fail
   try (refine HC.out.mono ?_;rintro e w' ⟨rfl,rfl⟩;go_wp2_with fail)
   go_ret;exact⟨rfl,rfl⟩
 have HS:Hid (WX s=((bytes s).all Y1&&decide (2<=s.size)&&decide (s.size<=16)&&!YO Xp s&&!YO X5 s)):=by show _=_;unfold WX;rw[if_neg h1]
 have HL:=hid (zLk s w hs);have HK:=hid (zQc s w);have HA:=hid (zOb s w);unfold maxLen at hs;have e1:((s.size:Int)==1)=false:=by simp;omega
 have e1':decide ((s.size:Int)=1)=false:=by simp;omega
 rw[HS.out];clear HS h1;generalize YO Xp s=b1 at *;generalize YO X5 s=b2 at *;generalize (bytes s).all Y1=b3 at *;by_cases h2:2<=s.size
 ·have i2:(2:Int)<=(s.size:Int):=by omega
  have d2:decide ((2:Int)<=(s.size:Int))=true:=by simp;omega
  rw[decide_eq_true h2];clear h2;by_cases h3:s.size<=16
  ·have i3:(s.size:Int)<=16:=by omega
   have d3:decide ((s.size:Int)<=16)=true:=by simp;omega
   rw[decide_eq_true h3];clear h3;cases b3<;>cases b1<;>cases b2
   all_goals
    go_enter Tryz.func122,Tryz.ntmps122
    go_wp2_with fail
    refine HL.out.mono ?_;rintro e w' ⟨rfl,rfl⟩
    go_wp2_with fail
    try (refine HK.out.mono ?_;rintro e w' ⟨rfl,rfl⟩;go_wp2_with fail)
    try (refine HA.out.mono ?_;rintro e w' ⟨rfl,rfl⟩;go_wp2_with fail)
    go_ret;exact⟨rfl,rfl⟩
  have i3:¬(s.size:Int)<=16:=by omega
  have d3:decide ((s.size:Int)<=16)=false:=by simp;omega
  rw[decide_eq_false h3];clear h3;have HG:Hid ((b3&&true&&false&&!b1&&!b2)=false):=by show _=_;simp
  rw[HG.out];go_enter Tryz.func122,Tryz.ntmps122
  go_wp2_with fail
  go_ret;exact⟨rfl,rfl⟩
 have i2:¬(2:Int)<=(s.size:Int):=by omega
 have d2:decide ((2:Int)<=(s.size:Int))=false:=by simp;omega
 rw[decide_eq_false h2];clear h2;have HG:Hid ((b3&&false&&decide (s.size<=16)&&!b1&&!b2)=false):=by show _=_;simp
 rw[HG.out];go_enter Tryz.func122,Tryz.ntmps122
 go_wp2_with fail
 go_ret;exact⟨rfl,rfl⟩
theorem zNa (s:ByteArray) (w:World) (hs:s.size<=maxLen) :
  Calls Tryz.prog 153 #[.string s] w fun e w'=>e=.returned (.bool (digs (bytes s)))/\w=w':=by
 rw[Ue];exact Vh s w hs
theorem zP9 (s:ByteArray) (w:World) (hs:s.size<=maxLen) :
  Calls Tryz.prog 123 #[.string s] w fun e w'=>e=.returned (.bool (Wt s))/\∃n,w'=w.drewN n:=by
 have HC:=hid (zIz s w hs);have HD:Hid (∀(t:ByteArray) (W:World),t.size<=maxLen->Calls Tryz.prog 153 #[.string t] W fun e w'=>e=.returned (.bool (digs (bytes t)))/\W=w'):=fun t W ht=>zNa t W ht
 have ae:=hs;unfold maxLen at hs;by_cases h3:s.size<=20
 ·have i3:(s.size:Int)<=20:=by omega
  have d3:decide ((s.size:Int)<=20)=true:=by simp;omega
  go_enter Tryz.func123,Tryz.ntmps123
  go_wp2_with fail
  refine HC.out.mono ?_;rintro e w' ⟨⟨n,rfl⟩,(⟨hi,rfl⟩|⟨i,hi,aa,rfl⟩)⟩
  ·have HN:=hid (zHx s hi);rw[decide_eq_true h3,Bool.true_and] at HN;have af:=hid (HD.out s (w.drewN n) ae);clear hi;generalize digs (bytes s)=b at *;cases b
   all_goals
    go_wp2_with fail
    refine af.out.mono ?_;rintro e w' ⟨rfl,rfl⟩
    go_wp2_with fail
    go_ret;exact⟨by rw[HN.out];rfl,n,rfl⟩
  have HN:=hid (zHw s i hi aa);rw[decide_eq_true h3,Bool.true_and] at HN;have ah:=hid (HD.out (s.extract 0 i) (w.drewN n) (by simp[maxLen];omega));have ag:=hid (HD.out (s.extract (i+1) s.size) (w.drewN n) (by simp[maxLen];omega));clear hi;generalize digs (bytes (s.extract 0 i))=b1 at *;generalize digs (bytes (s.extract (i+1) s.size))=b2 at *;generalize s.extract 0 i=t1 at *;generalize s.extract (i+1) s.size=t2 at *;cases b1<;>cases b2
  all_goals
   go_wp2_with fail
   refine ah.out.mono ?_;rintro e w' ⟨rfl,rfl⟩
   go_wp2_with fail
   try (refine ag.out.mono ?_;rintro e w' ⟨rfl,rfl⟩;go_wp2_with fail)
   go_ret;exact⟨by rw[HN.out];rfl,n,rfl⟩
 have i3:¬(s.size:Int)<=20:=by omega
 have d3:decide ((s.size:Int)<=20)=false:=by simp;omega
 have HG:Hid (Wt s=false):=by
  show _=_;rcases zE7 s 46 with hi|⟨i,hi,aa⟩
  ·rw[zHx s hi,decide_eq_false h3];rfl
  rw[zHw s i hi aa,decide_eq_false h3];rfl
 go_enter Tryz.func123,Tryz.ntmps123
 go_wp2_with fail
 refine HC.out.mono ?_;rintro e w' ⟨⟨n,rfl⟩,(⟨hi,rfl⟩|⟨i,hi,aa,rfl⟩)⟩
 all_goals
  clear hi
  go_wp2_with fail
  go_ret;exact⟨by rw[HG.out];rfl,n,rfl⟩
def Rh (s:ByteArray):Bool:=decide (s.size=2)&&Zn (bytes XH) ((bytes s).getD 0 0)&&Zn (bytes XH) ((bytes s).getD 1 0)
theorem Ug (s:ByteArray) (w:World) (hs:s.size<=maxLen) :
  Calls Tryz.prog 126 #[.string s] w fun e w'=>e=.returned (.bool (Rh s))/\w=w':=by
 unfold maxLen at hs;by_cases h2:s.size=2
 ·have l0:0<s.size:=by omega
  have l1:1<s.size:=by omega
  have HG:Hid (Rh s=(Zn (bytes XH) (s[0].toNat:Int)&&Zn (bytes XH) (s[1].toNat:Int))):=by show _=_;rw[Rh,decide_eq_true h2,zFf s 0 l0,zFf s 1 l1];rfl
  have C0:=hid (zEc ⟨#[40,41,91,93,123,125,60,62,47,124,46]⟩ (s[0].toNat:Int) w);have C1:=hid (zEc ⟨#[40,41,91,93,123,125,60,62,47,124,46]⟩ (s[1].toNat:Int) w);have f0:=zIi s[0];have f1:=zIi s[1];rw[HG.out];clear HG;simp only at C0 C1;generalize Lib.indexByte [40,41,91,93,123,125,60,62,47,124,46] (((s[0].toNat:Int)).toNat.toUInt8)=x0 at *;generalize Lib.indexByte [40,41,91,93,123,125,60,62,47,124,46] (((s[1].toNat:Int)).toNat.toUInt8)=x1 at *;rw[<-f0,<-f1];clear f0 f1;have d1:((s.size:Int)==2)=true:=by simp;omega
  have i0:(0:Int)<(s.size:Int):=by omega
  have i1:(1:Int)<(s.size:Int):=by omega
  clear h2;by_cases k0:0<=x0
  ·by_cases k1:0<=x1
   ·rw[decide_eq_true k0,decide_eq_true k1];go_enter Tryz.func126,Tryz.ntmps126
    go_wp2_with fail
    refine C0.out.mono ?_;rintro e w' ⟨rfl,rfl⟩
    go_wp2_with fail
    refine C1.out.mono ?_;rintro e w' ⟨rfl,rfl⟩
    go_wp2_with fail
    go_ret;exact⟨by first|rfl|(simp;done)|(simp;omega),rfl⟩
   have e1:decide (0<=x1)=false:=decide_eq_false k1;rw[decide_eq_true k0,e1];go_enter Tryz.func126,Tryz.ntmps126
   go_wp2_with fail
   refine C0.out.mono ?_;rintro e w' ⟨rfl,rfl⟩
   go_wp2_with fail
   refine C1.out.mono ?_;rintro e w' ⟨rfl,rfl⟩
   go_wp2_with fail
   go_ret;exact⟨by first|rfl|(simp;done)|(simp;omega),rfl⟩
  have e0:decide (0<=x0)=false:=decide_eq_false k0;rw[e0,Bool.false_and];go_enter Tryz.func126,Tryz.ntmps126
  go_wp2_with fail
  refine C0.out.mono ?_;rintro e w' ⟨rfl,rfl⟩
  go_wp2_with fail
  go_ret;exact⟨by first|rfl|(simp;done)|(simp;omega),rfl⟩
 have HG:Hid (Rh s=false):=by show _=_;rw[Rh,decide_eq_false h2];rfl
 have d1:((s.size:Int)==2)=false:=by simp;omega
 rw[HG.out];clear h2 HG;go_enter Tryz.func126,Tryz.ntmps126
 go_wp2_with fail
 go_ret;exact⟨rfl,rfl⟩
