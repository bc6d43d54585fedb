/- T -/
import Derived.Test.YthpngeboknmllaaGreatQa77a
import Derived.Deep.QuietTactic
import Derived.BigQuiet
import Derived.Deep.RegionHeld3
set_option linter.unusedVariables false
set_option linter.unusedSimpArgs false
set_option maxHeartbeats 1000000
namespace Go.Proofs.YthpngeboknmllaaGreat
open Go.RowKit
def bytes (s:ByteArray):List Int:=s.data.toList.map fun b=>(b.toNat:Int)
theorem RS (s:ByteArray):(bytes s).length=s.size:=by simp only[bytes,List.length_map,Array.length_toList];rfl
theorem zMd (s:ByteArray) (k:Nat) (h:k<s.size):(bytes s)[k]'(by rw[RS];exact h)=(s[k].toNat:Int):=by simp only[bytes,List.getElem_map];rfl
theorem TP (s:ByteArray) (k:Nat) (h:k<s.size):(bytes s).drop k=(s[k].toNat:Int)::(bytes s).drop (k+1):=by
 rw[List.drop_eq_getElem_cons (by rw[RS];exact h),zMd s k h]
theorem SF (s:ByteArray) (k:Nat) (h:¬k<s.size):(bytes s).drop k=[]:=List.drop_of_length_le (by rw[RS];omega)
def Yd (l:List Int):Bool:=l.all fun c=>decide (32<=c/\c<=126)
def Y1 (c:Int):Bool:=decide (97<=c/\c<=122) || decide (65<=c/\c<=90)
def YF (c:Int):Bool:=decide (48<=c/\c<=57)
theorem Ud (c:Int) (w:World) (h0:0<=c) (h1:c<=255):Calls Tryz.prog 158 #[.int .u8 c] w fun e w'=>e=.returned (.bool (YF c))/\w=w':=by
 by_cases a:48<=c
 ·by_cases b:c<=57
  ·have HF:Hid (YF c=true):=by show _=_;simp[YF,a,b]
   go_enter Tryz.func158,Tryz.ntmps158
   go_wp2_with fail
   go_ret;exact⟨by rw[HF.out];rfl,rfl⟩
  have HF:Hid (YF c=false):=by show _=_;simp[YF,b]
  go_enter Tryz.func158,Tryz.ntmps158
  go_wp2_with fail
  go_ret;exact⟨by rw[HF.out];first|done|rfl|(simp;omega),rfl⟩
 have HF:Hid (YF c=false):=by show _=_;simp[YF,a]
 go_enter Tryz.func158,Tryz.ntmps158
 go_wp2_with fail
 go_ret;exact⟨by rw[HF.out];first|done|rfl|(simp;omega),rfl⟩
theorem zN1 (c:Int) (w:World) (h0:0<=c) (h1:c<=255):Calls Tryz.prog 156 #[.int .u8 c] w fun e w'=>e=.returned (.bool (Y1 c))/\w=w':=by
 have hc:(97<=c/\c<=122)\/(65<=c/\c<=90)\/c<65\/(90<c/\c<97)\/122<c:=by omega
 rcases hc with ⟨a,b⟩|⟨a,b⟩|a|⟨a,b⟩|a
 ·have HF:Hid (Y1 c=true):=by show _=_;simp[Y1,a,b]
  go_enter Tryz.func156,Tryz.ntmps156
  go_wp2_with fail
  go_ret;exact⟨by rw[HF.out];rfl,rfl⟩
 ·have HF:Hid (Y1 c=true):=by show _=_;simp[Y1,a,b]
  have n1:decide (97<=c)=false:=by simp;omega
  go_enter Tryz.func156,Tryz.ntmps156
  go_wp2_with fail
  go_ret;exact⟨by rw[HF.out];rfl,rfl⟩
 ·have HF:Hid (Y1 c=false):=by show _=_;simp[Y1];omega
  have n1:decide (97<=c)=false:=by simp;omega
  have n2:decide (65<=c)=false:=by simp;omega
  go_enter Tryz.func156,Tryz.ntmps156
  go_wp2_with fail
  go_ret;exact⟨by rw[HF.out];rfl,rfl⟩
 ·have HF:Hid (Y1 c=false):=by show _=_;simp[Y1];omega
  have n1:decide (97<=c)=false:=by simp;omega
  have n2:decide (65<=c)=true:=by simp;omega
  have n3:decide (c<=90)=false:=by simp;omega
  go_enter Tryz.func156,Tryz.ntmps156
  go_wp2_with fail
  go_ret;exact⟨by rw[HF.out];rfl,rfl⟩
 have HF:Hid (Y1 c=false):=by show _=_;simp[Y1];omega
 have n1:decide (97<=c)=true:=by simp;omega
 have n2:decide (c<=122)=false:=by simp;omega
 have n3:decide (65<=c)=true:=by simp;omega
 have n4:decide (c<=90)=false:=by simp;omega
 go_enter Tryz.func156,Tryz.ntmps156
 go_wp2_with fail
 go_ret;exact⟨by rw[HF.out];rfl,rfl⟩
def Zn (l:List Int) (c:Int):Bool:=l.any (·==c)
theorem Vw (s:ByteArray) (c:Int) (w:World) (hs:s.size<=maxLen) :
  Calls Tryz.prog 139 #[.string s,.int .u8 c] w fun e w'=>e=.returned (.bool (Zn (bytes s) c))/\w=w':=by
 unfold maxLen at hs;go_enter Tryz.func139,Tryz.ntmps139
 go_wp2
 go_loop [5] (fun i=>∃k:Nat,k<=s.size/\i=.int .i64 k/\Zn ((bytes s).drop k) c=Zn (bytes s) c) (fun i=>s.size-(intOf i).toNat)
 case atStart=>exact⟨0,QU _,rfl,rfl⟩
 obtain⟨k,hk,rfl,aa⟩:=hrel;have HR:=hid aa;clear aa;by_cases ae:k<s.size
 ·have HN:=hid (TP s k ae);by_cases he:(s[k].toNat:Int)=c
  ·have hb:((s[k].toNat:Int)==c)=true:=by simpa using he
   have HF:Hid (Zn (bytes s) c=true):=by show _=_;rw[<-HR.out,HN.out,Zn,List.any_cons,hb];rfl
   clear he
   go_wp2
   go_ret;exact⟨by rw[HF.out];rfl,rfl⟩
  have hb:((s[k].toNat:Int)==c)=false:=by simpa using he
  have HF:Hid (Zn ((bytes s).drop (k+1)) c=Zn (bytes s) c):=by show _=_;rw[<-HR.out,HN.out,Zn,Zn,List.any_cons,hb];rfl
  clear he
  go_wp2
  go_round
  case rel=>exact⟨k+1,by omega,by go_num,HF.out⟩
  case measure=>simp[intOf];omega
 have HF:Hid (Zn (bytes s) c=false):=by show _=_;rw[<-HR.out,SF s k ae];rfl
 go_wp2
 go_ret;exact⟨by rw[HF.out];rfl,rfl⟩
def WS:ByteArray:=⟨#[43,45,42,47,61,60,62,44,59,58,33,124,39,63,126,64]⟩
def Rb (c:Int):Bool:=Y1 c || Zn (bytes WS) c
theorem zNf (c:Int) (w:World) (h0:0<=c) (h1:c<=255):Calls Tryz.prog 155 #[.int .u8 c] w fun e w'=>e=.returned (.bool (Rb c))/\w=w':=by
 have HL:=hid (zN1 c w h0 h1);have HH:Hid (∀W,Calls Tryz.prog 139 #[.string WS,.int .u8 c] W fun e w'=>e=.returned (.bool (Zn (bytes WS) c))/\W=w'):=fun W=>Vw WS c W (by decide)
 have HF:Hid (Rb c=(Y1 c || Zn (bytes WS) c)):=rfl;generalize Y1 c=a at *;generalize Zn (bytes WS) c=b at *;unfold WS at HH;cases a<;>cases b
 all_goals
  go_enter Tryz.func155,Tryz.ntmps155
  go_wp2_with fail
  with_reducible refine HL.out.mono ?_
  rintro e w1 ⟨rfl,rfl⟩
  go_wp2_with fail
  try (refine(HH.out _).mono ?_;rintro e w1 ⟨rfl,rfl⟩;go_wp2_with fail)
  go_ret;exact⟨by rw[HF.out];rfl,rfl⟩
theorem zMp (s:ByteArray) (w:World) (hs:s.size<=maxLen) :
  Calls Tryz.prog 136 #[.string s] w fun e w'=>e=.returned (.bool (Yd (bytes s)))/\w=w':=by
 unfold maxLen at hs;go_enter Tryz.func136,Tryz.ntmps136
 go_wp2
 go_loop [3] (fun i=>∃k:Nat,k<=s.size/\i=.int .i64 k/\Yd ((bytes s).drop k)=Yd (bytes s)) (fun i=>s.size-(intOf i).toNat)
 case atStart=>exact⟨0,QU _,rfl,rfl⟩
 obtain⟨k,hk,rfl,aa⟩:=hrel;have HR:=hid aa;clear aa;by_cases ae:k<s.size
 ·have HN:=hid (TP s k ae);by_cases h1:(s[k].toNat:Int)<32
  ·have HF:Hid (Yd (bytes s)=false):=by show _=_;rw[<-HR.out,HN.out,Yd,List.all_cons,decide_eq_false (by omega)];rfl
   go_wp2
   go_ret;exact⟨by rw[HF.out];rfl,rfl⟩
  have d1:decide ((s[k].toNat:Int)<32)=false:=by simpa using h1
  by_cases h2:126<(s[k].toNat:Int)
  ·have HF:Hid (Yd (bytes s)=false):=by show _=_;rw[<-HR.out,HN.out,Yd,List.all_cons,decide_eq_false (by omega)];rfl
   go_wp2
   go_ret;exact⟨by rw[HF.out];rfl,rfl⟩
  have d2:decide (126<(s[k].toNat:Int))=false:=by simpa using h2
  have HF:Hid (Yd ((bytes s).drop (k+1))=Yd (bytes s)):=by show _=_;rw[<-HR.out,HN.out,Yd,Yd,List.all_cons,decide_eq_true (show 32<=(s[k].toNat:Int)/\(s[k].toNat:Int)<=126 by omega)];rfl
  go_wp2
  go_round
  case rel=>exact⟨k+1,by omega,by go_num,HF.out⟩
  case measure=>simp[intOf];omega
 have HF:Hid (Yd (bytes s)=true):=by show _=_;rw[<-HR.out,SF s k ae];rfl
 go_wp2
 go_ret;exact⟨by rw[HF.out];rfl,rfl⟩
def Ye:YW ByteArray where
 size:=1
 R _ _ s cs:=cs=[.string s]/\s.size<=maxLen
 pos:=by omega
 len:=by rintro _ _ _ _ ⟨rfl,_⟩;rfl
 one:=by rintro _ _ _ _ ⟨rfl,_⟩;simp[Value.oneCell']
 keep:=fun h _ _=>h
theorem UD {w:World} {S:Nat->Prop} {xs:List ByteArray} {A:Option Addr} {cs:List Value} (h3:Zl w S A cs) (h4:ZK Ye w S xs cs) {k:Nat} (hk:k<xs.length) :
  ∃g o,A=some ⟨g,o,none⟩/\S g/\w.cell? ⟨g,o+k,none⟩=some (.string xs[k]):=by
 obtain⟨g,o,c,e,hb,⟨rfl,hi⟩,hc⟩:=Sl h3 h4 hk;exact⟨g,o,e,hb,by simpa[Ye] using hc 0 _ rfl⟩
def YO (l:List ByteArray) (s:ByteArray):Bool:=l.any fun x=>x.toList==s.toList
theorem Vx {l:List ByteArray} {k:Nat} (h:k<l.length) (s:ByteArray):YO (l.drop k) s=((l[k].toList==s.toList) || YO (l.drop (k+1)) s):=by
 rw[List.drop_eq_getElem_cons h];rfl
theorem Rj (l:List ByteArray) (s:ByteArray) (w:World) (v:Value) (S:Nat->Prop) (hv:Z8 Ye w S l v) :
  Calls Tryz.prog 137 #[v,.string s] w fun e w'=>e=.returned (.bool (YO l s))/\w=w':=by
 obtain⟨A,cap,rs,rfl,ai,ae,af,ah⟩:=hv;unfold maxLen at ae;have hl:l.length<=9223372036854775807:=by omega
 have H:Hid (Zl w S A rs/\ZK Ye w S l rs):=⟨af,ah⟩;clear af ah;go_enter Tryz.func137,Tryz.ntmps137
 go_wp2
 go_loop [5] (fun i=>∃k:Nat,k<=l.length/\i=.int .i64 k/\YO (l.drop k) s=YO l s) (fun i=>l.length-(intOf i).toNat)
 case atStart=>exact⟨0,QU _,rfl,rfl⟩
 obtain⟨k,hk,rfl,aa⟩:=hrel;have HR:=hid aa;clear aa;by_cases ag:k<l.length
 ·obtain⟨g,o,rfl,hg,c0⟩:=UD H.out.1 H.out.2 ag;have HN:=hid (Vx ag s);cases hq:(l[k].toList==s.toList) with
  |
   true =>
   have HF:Hid (YO l s=true):=by show _=_;rw[<-HR.out,HN.out,hq];rfl
   go_wp2
   go_ret;exact⟨by rw[HF.out];rfl,rfl⟩
  |
   false =>
   have HF:Hid (YO (l.drop (k+1)) s=YO l s):=by show _=_;rw[<-HR.out,HN.out,hq];rfl
   go_wp2
   go_round
   case rel=>exact⟨k+1,by omega,by go_num,HF.out⟩
   case measure=>simp[intOf];omega
 have HF:Hid (YO l s=false):=by show _=_;rw[<-HR.out,List.drop_of_length_le (by omega)];rfl
 go_wp2
 go_ret;exact⟨by rw[HF.out];rfl,rfl⟩
def Xp:List ByteArray:=[⟨#[102,114,97,99]⟩,⟨#[114,111,111,116]⟩,⟨#[109,97,116,114,105,120]⟩,⟨#[102,101,110,99,101]⟩]
def X5:List ByteArray:=[⟨#[104,97,116]⟩,⟨#[98,97,114]⟩,⟨#[118,101,99]⟩,⟨#[100,111,116]⟩,⟨#[116,105,108,100,101]⟩,⟨#[99,104,101,99,107]⟩]
def Q7 (w:World) (l:List ByteArray) (e:Ending) (w':World):Prop:=∃A c,e=.returned (.slice A l.length c)/\Z8 Ye w' (Lt w'.heap.size) l (.slice A l.length c)/\Below w.heap.size w w'
theorem zNp (w:World) (l:List ByteArray) (hl:∀s∈l,s.size<=maxLen) (hn:l.length<=maxLen) (e:TypeId) (arr:Array Value) (aa:arr=(l.map Value.string).toArray) :
  Z8 Ye (w.alloc (.cells arr e)) (Lt (w.alloc (.cells arr e)).heap.size) l (.slice (some ⟨w.heap.size,0,none⟩) l.length l.length):=by
 subst aa;refine⟨_,_,l.map Value.string,rfl,QT _,hn,fun _=>⟨w.heap.size,0,rfl,by unfold Lt;simp,fun j u hu=>?_⟩,?_⟩
 ·rw[Nat.zero_add,World.cell?_alloc_new];simpa using hu
 clear hn;induction l with
 |nil=>rfl
 |cons s l ih=>exact⟨[.string s],_,rfl,⟨rfl,hl s (by simp)⟩,by
   have:=ih (fun s hs=>hl s (by simp[hs]));have ae:∀(W W':World) (S S':Nat->Prop) (xs:List ByteArray) (cs:List Value),ZK Ye W S xs cs->ZK Ye W' S' xs cs:=by
    intro W W' S S' xs;induction xs with
    |nil=>intro cs h;exact h
    |cons x xs ih2=>rintro cs ⟨h,r,e1,e2,e3⟩;exact⟨h,r,e1,e2,ih2 r e3⟩
   exact ae _ _ _ _ _ _ this⟩
theorem zLp (w:World):Calls Tryz.prog 157 #[] w (Q7 w Xp):=by
 have HL:=hid (zNp w Xp (by unfold Xp;intro s hs;simp only[List.mem_cons,List.not_mem_nil,or_false] at hs;rcases hs with rfl|rfl|rfl|rfl<;>decide) (by decide) 9 _ rfl);go_enter Tryz.func157,Tryz.ntmps157
 go_wp2
 go_ret;exact⟨_,_,rfl,HL.out,(QQ _ _).alloc (QT _) _⟩
theorem zIs (w:World):Calls Tryz.prog 138 #[] w (Q7 w X5):=by
 have HL:=hid (zNp w X5 (by unfold X5;intro s hs;simp only[List.mem_cons,List.not_mem_nil,or_false] at hs;rcases hs with rfl|rfl|rfl|rfl|rfl|rfl<;>decide) (by decide) 9 _ rfl);go_enter Tryz.func138,Tryz.ntmps138
 go_wp2
 go_ret;exact⟨_,_,rfl,HL.out,(QQ _ _).alloc (QT _) _⟩
def Yh (n:Nat):List Int->Nat->Nat->Option Nat
 |[],_,p=>some p
 |c::l,k,p=>if c=46/\0<k/\k+1<n then Yh n l (k+1) (p+1) else if YF c=true then Yh n l (k+1) p else none
def Wt (s:ByteArray):Bool :=
 match Yh s.size (bytes s) 0 0 with
 |some p=>decide (0<s.size/\s.size<=20/\p<=1)
 |none=>false
theorem VL (s:ByteArray) (w:World) (hs:s.size<=maxLen) :
  Calls Tryz.prog 135 #[.string s] w fun e w'=>e=.returned (.bool (Wt s))/\w=w':=by
 unfold maxLen at hs;have HD:Hid (∀c:Int,0<=c->c<=255->Calls Tryz.prog 158 #[.int .u8 c] w fun e w'=>e=.returned (.bool (YF c))/\w=w'):=fun c h0 h1=>Ud c w h0 h1
 have HS:Hid (Wt s=match Yh s.size (bytes s) 0 0 with
  |some p=>decide (0<s.size/\s.size<=20/\p<=1)
  |none=>false):=rfl
 go_enter Tryz.func135,Tryz.ntmps135
 go_wp2
 go_loop [3,4] (fun q i=>∃k p:Nat,k<=s.size/\p<=k/\i=.int .i64 k/\q=.int .i64 p/\Yh s.size ((bytes s).drop k) k p=Yh s.size (bytes s) 0 0) (fun _ i=>s.size-(intOf i).toNat)
 case atStart=>exact⟨0,0,QU _,QU _,rfl,rfl,rfl⟩
 obtain⟨k,p,hk,hp,rfl,rfl,aa⟩:=hrel;have HR:=hid aa;clear aa;by_cases ah:k<s.size
 ·have HN:=hid (TP s k ah);have aj:(0:Int)<=(s[k].toNat:Int):=by omega
  have ai:(s[k].toNat:Int)<=255:=by have:=s[k].toNat_lt;omega
  by_cases hc:(s[k].toNat:Int)=46/\0<k/\k+1<s.size
  ·have HF:Hid (Yh s.size ((bytes s).drop (k+1)) (k+1) (p+1)=Yh s.size (bytes s) 0 0):=by show _=_;rw[<-HR.out,HN.out,Yh,if_pos hc]
   have e1:((s[k].toNat:Int)==46)=true:=by simpa using hc.1
   obtain⟨_,hc2,hc3⟩:=hc;have e2:(0:Int)<(k:Int):=by omega
   have e3:(k:Int)<(s.size:Int)-1:=by omega
   go_wp2_with fail
   go_round
   case rel=>exact⟨k+1,p+1,by omega,by omega,by go_num,by go_num,HF.out⟩
   case measure=>simp[intOf];omega
  cases hd:YF (s[k].toNat:Int) with
  |
   true =>
   have HF:Hid (Yh s.size ((bytes s).drop (k+1)) (k+1) p=Yh s.size (bytes s) 0 0):=by show _=_;rw[<-HR.out,HN.out,Yh,if_neg hc,if_pos hd]
   have ag:(s[k].toNat:Int)≠46:=by intro h;rw[h] at hd;exact absurd hd (by decide)
   have e1:((s[k].toNat:Int)==46)=false:=by simpa using ag
   have ae:=hid (HD.out _ aj ai);rw[hd] at ae;clear hc ag hd
   go_wp2_with fail
   with_reducible refine ae.out.mono ?_
   rintro e w1 ⟨rfl,rfl⟩
   go_wp2_with fail
   go_round
   case rel=>exact⟨k+1,p,by omega,by omega,by go_num,rfl,HF.out⟩
   case measure=>simp[intOf];omega
  |
   false =>
   have HF:Hid (Wt s=false):=by show _=_;rw[HS.out,<-HR.out,HN.out,Yh,if_neg hc,if_neg (by rw[hd];simp)]
   have ae:=hid (HD.out _ aj ai);rw[hd] at ae;clear hd;by_cases he:(s[k].toNat:Int)=46
   ·have e1:((s[k].toNat:Int)==46)=true:=by simpa using he
    by_cases hk0:0<k
    ·have e2:(0:Int)<(k:Int):=by omega
     have e3:(s.size:Int)-1<=(k:Int):=by omega
     clear hc he
     go_wp2_with fail
     with_reducible refine ae.out.mono ?_
     rintro e w1 ⟨rfl,rfl⟩
     go_wp2_with fail
     go_ret;exact⟨by rw[HF.out];rfl,rfl⟩
    obtain rfl:k=0:=by omega
    clear hc he
    go_wp2_with fail
    with_reducible refine ae.out.mono ?_
    rintro e w1 ⟨rfl,rfl⟩
    go_wp2_with fail
    go_ret;exact⟨by rw[HF.out];rfl,rfl⟩
   have e1:((s[k].toNat:Int)==46)=false:=by simpa using he
   clear hc he
   go_wp2_with fail
   with_reducible refine ae.out.mono ?_
   rintro e w1 ⟨rfl,rfl⟩
   go_wp2_with fail
   go_ret;exact⟨by rw[HF.out];rfl,rfl⟩
 have af:k=s.size:=by omega
 have HF:Hid (Wt s=decide (0<s.size/\s.size<=20/\p<=1)):=by show _=_;rw[HS.out,<-HR.out,SF s k ah,Yh]
 by_cases h1:0<s.size
 ·by_cases h2:s.size<=20
  ·by_cases h3:p<=1
   ·clear af
    go_wp2_with fail
    go_ret;exact⟨by rw[HF.out,show decide (0<s.size/\s.size<=20/\p<=1)=true from decide_eq_true ⟨h1,h2,h3⟩];first|done|rfl|(simp;done)|(simp;omega),rfl⟩
   have h3':decide ((p:Int)<=1)=false:=by simp;omega
   clear af
   go_wp2_with fail
   go_ret;exact⟨by rw[HF.out,show decide (0<s.size/\s.size<=20/\p<=1)=false from decide_eq_false (fun h=>h3 h.2.2)];first|done|rfl|(simp;done)|(simp;omega),rfl⟩
  have h2':decide ((s.size:Int)<=20)=false:=by simp;omega
  clear af
  go_wp2_with fail
  go_ret;exact⟨by rw[HF.out,show decide (0<s.size/\s.size<=20/\p<=1)=false from decide_eq_false (fun h=>h2 h.2.1)];first|done|rfl|(simp;done)|(simp;omega),rfl⟩
 have h1':decide ((0:Int)<(s.size:Int))=false:=decide_eq_false (by omega);clear af
 go_wp2_with fail
 go_ret;exact⟨by rw[HF.out,show decide (0<s.size/\s.size<=20/\p<=1)=false from decide_eq_false (fun h=>h1 h.1)];first|done|rfl|(simp;done)|(simp;omega),rfl⟩
def WX (s:ByteArray):Bool :=
 if s.size=1 then Rb ((bytes s).headD 0)
 else ((bytes s).all Y1&&decide (2<=s.size)&&decide (s.size<=16)&&!YO Xp s&&!YO X5 s)
theorem zVr (s:ByteArray) (k:Nat) (h:k<s.size):((bytes s).drop k).all Y1=(Y1 (s[k].toNat:Int)&&((bytes s).drop (k+1)).all Y1):=by
 rw[TP s k h];rfl
theorem zOg (s:ByteArray) (w:World) (hs:s.size<=maxLen) :
  Calls Tryz.prog 134 #[.string s] w fun e w'=>e=.returned (.bool (WX s))/\Below w.heap.size w w':=by
 unfold maxLen at hs;have HL:Hid (∀c:Int,0<=c->c<=255->Calls Tryz.prog 156 #[.int .u8 c] w fun e w'=>e=.returned (.bool (Y1 c))/\w=w'):=fun c h0 h1=>zN1 c w h0 h1
 by_cases h1:s.size=1
 ·have h0:0<s.size:=by omega
  have ae:(s[0].toNat:Int)<=255:=by have:=s[0].toNat_lt;omega
  have HC:=hid (zNf (s[0].toNat:Int) w (by omega) ae);have HF:Hid (WX s=Rb (s[0].toNat:Int)):=by
   show _=_;unfold WX;rw[if_pos h1];have:=TP s 0 h0;rw[List.drop_zero] at this;rw[this];rfl
  have e1:((s.size:Int)==1)=true:=by simp;omega
  have i1:(0:Int)<(s.size:Int):=by omega
  clear h1;go_enter Tryz.func134,Tryz.ntmps134
  go_wp2_with fail
  with_reducible refine HC.out.mono ?_
  rintro e w1 ⟨rfl,rfl⟩
  go_wp2_with fail
  go_ret;exact⟨by rw[HF.out];rfl,QQ _ _⟩
 have e1:((s.size:Int)==1)=false:=by simp;omega
 have HS:Hid (WX s=((bytes s).all Y1&&decide (2<=s.size)&&decide (s.size<=16)&&!YO Xp s&&!YO X5 s)):=by show _=_;unfold WX;rw[if_neg h1]
 have HK:Hid (∀W,Calls Tryz.prog 157 #[] W (Q7 W Xp)):=fun W=>zLp W
 have HA:Hid (∀W,Calls Tryz.prog 138 #[] W (Q7 W X5)):=fun W=>zIs W
 have HI:Hid (∀(W:World) (l:List ByteArray) (v:Value),Z8 Ye W (Lt W.heap.size) l v->Calls Tryz.prog 137 #[v,.string s] W fun e w'=>e=.returned (.bool (YO l s))/\W=w'):=fun W l v hv=>Rj l s W v _ hv
 clear h1;go_enter Tryz.func134,Tryz.ntmps134
 go_wp2_with fail
 go_loop [3] (fun i=>∃k:Nat,k<=s.size/\i=.int .i64 k/\((bytes s).drop k).all Y1=(bytes s).all Y1) (fun i=>s.size-(intOf i).toNat)
 case atStart=>exact⟨0,QU _,rfl,rfl⟩
 obtain⟨k,hk,rfl,aa⟩:=hrel;have HR:=hid aa;clear aa;by_cases ak:k<s.size
 ·have HN:=hid (zVr s k ak);have av:(0:Int)<=(s[k].toNat:Int):=by omega
  have ae:(s[k].toNat:Int)<=255:=by have:=s[k].toNat_lt;omega
  have af:=hid (HL.out _ av ae);cases hd:Y1 (s[k].toNat:Int) with
  |
   true =>
   rw[hd] at af;have HF:Hid (((bytes s).drop (k+1)).all Y1=(bytes s).all Y1):=by show _=_;rw[<-HR.out,HN.out,hd];rfl
   clear hd
   go_wp2_with fail
   with_reducible refine af.out.mono ?_
   rintro e w1 ⟨rfl,rfl⟩
   go_wp2_with fail
   go_round
   case rel=>exact⟨k+1,by omega,by go_num,HF.out⟩
   case measure=>simp[intOf];omega
  |
   false =>
   rw[hd] at af;have HF:Hid (WX s=false):=by show _=_;rw[HS.out,<-HR.out,HN.out,hd];rfl
   clear hd
   go_wp2_with fail
   with_reducible refine af.out.mono ?_
   rintro e w1 ⟨rfl,rfl⟩
   go_wp2_with fail
   go_ret;exact⟨by rw[HF.out];rfl,QQ _ _⟩
 have ah:Hid ((bytes s).all Y1=true):=by show _=_;rw[<-HR.out,SF s k ak];rfl
 by_cases h2:2<=s.size
 ·by_cases h3:s.size<=16
  ·have HF:Hid (WX s=(!YO Xp s&&!YO X5 s)):=by show _=_;rw[HS.out,ah.out,decide_eq_true h2,decide_eq_true h3];rfl
   have ay:Hid (∀(W:World) (v:Value),Z8 Ye W (Lt W.heap.size) Xp v->Calls Tryz.prog 137 #[v,.string s] W fun e w'=>e=.returned (.bool (YO Xp s))/\W=w'):=fun W v hv=>HI.out W _ v hv
   have ax:Hid (∀(W:World) (v:Value),Z8 Ye W (Lt W.heap.size) X5 v->Calls Tryz.prog 137 #[v,.string s] W fun e w'=>e=.returned (.bool (YO X5 s))/\W=w'):=fun W v hv=>HI.out W _ v hv
   generalize YO Xp s=b1 at *;generalize YO X5 s=b2 at *;cases b1<;>cases b2
   all_goals
    go_wp2_with fail
    refine(HK.out _).mono ?_;rintro e w1 ⟨A1,c1,rfl,aj,ae⟩;have H1:=hid aj;have ag:=hid ae;clear aj ae
    go_wp2_with fail
    refine(ay.out _ _ H1.out).mono ?_;rintro e w2 ⟨rfl,rfl⟩
    go_wp2_with fail
    try (refine(HA.out _).mono ?_;rintro e w3 ⟨A3,c3,rfl,ai,au⟩;have H3:=hid ai;have az:=hid (ag.out.trans (au.mono ag.out.size));clear ai au;go_wp2_with fail;refine(ax.out _ _ H3.out).mono ?_;rintro e w4 ⟨rfl,rfl⟩;go_wp2_with fail)
    go_ret;refine⟨by rw[HF.out];rfl,by first|exact az.out|exact ag.out⟩
  have HF:Hid (WX s=false):=by show _=_;rw[HS.out,ah.out,decide_eq_true h2,decide_eq_false h3];rfl
  have d3:decide ((s.size:Int)<=16)=false:=decide_eq_false (by omega)
  go_wp2_with fail
  go_ret;exact⟨by rw[HF.out];rfl,QQ _ _⟩
 have HF:Hid (WX s=false):=by show _=_;rw[HS.out,ah.out,decide_eq_false h2];rfl
 have d3:decide ((2:Int)<=(s.size:Int))=false:=decide_eq_false (by omega)
 go_wp2_with fail
 go_ret;exact⟨by rw[HF.out];rfl,QQ _ _⟩
def XH:ByteArray:=⟨#[40,41,91,93,123,125,124,60,62,47,46]⟩
def YT (k:Int) (s:ByteArray):Bool :=
 if k=2 then WX s else if k=3 then Wt s else if k=4 then (decide (s.size<=200)&&Yd (bytes s))
 else if k=10 then YO X5 s
 else if k=11 then (decide (s.size=2)&&Zn (bytes XH) ((bytes s).getD 0 0)&&Zn (bytes XH) ((bytes s).getD 1 0))
 else s.toList.isEmpty
theorem zFf (s:ByteArray) (k:Nat) (h:k<s.size):(bytes s).getD k 0=(s[k].toNat:Int):=by
 rw[List.getD_eq_getElem?_getD,List.getElem?_eq_getElem (by rw[RS];exact h),zMd s k h];rfl
theorem zQu (w:World) (o:Obj):Below w.heap.size w (w.alloc o):=(QQ _ _).alloc (QT _) _
theorem V8 (k c:Int) (s:ByteArray) (A:Option Addr) (n cap:Nat) (w:World) (hs:s.size<=maxLen) :
  Calls Tryz.prog 100 #[.agg #[.int .i64 k,.string s,.int .i64 c,.slice A n cap]] w fun e w'=>e=.returned (.bool (YT k s))/\Below w.heap.size w w':=by
 have HB:Hid (Below w.heap.size w (w.alloc (Obj.cells #[.int .i64 k,.string s,.int .i64 c,.slice A n cap] 24))):=zQu _ _;have q0:(w.alloc (Obj.cells #[.int .i64 k,.string s,.int .i64 c,.slice A n cap] 24)).cell? ⟨w.heap.size,0,none⟩=some (.int .i64 k):=by rw[World.cell?_alloc_new];rfl
 clear q0;by_cases k2:k=2
 ·subst k2;have HS:=hid (zOg s (w.alloc (Obj.cells #[.int .i64 2,.string s,.int .i64 c,.slice A n cap] 24)) hs);have HF:Hid (YT 2 s=WX s):=rfl;go_enter Tryz.func100,Tryz.ntmps100
  go_wp2_with fail
  with_reducible refine HS.out.mono ?_
  rintro e w1 ⟨rfl,aa⟩;have ah:=hid (HB.out.trans (aa.mono HB.out.size));clear aa
  go_wp2_with fail
  go_ret;exact⟨by rw[HF.out];rfl,ah.out⟩
 have e2:(k==2)=false:=by simpa using k2
 by_cases k3:k=3
 ·subst k3;clear e2 k2;have HS:=hid (VL s (w.alloc (Obj.cells #[.int .i64 3,.string s,.int .i64 c,.slice A n cap] 24)) hs);have HF:Hid (YT 3 s=Wt s):=rfl;go_enter Tryz.func100,Tryz.ntmps100
  go_wp2_with fail
  with_reducible refine HS.out.mono ?_
  rintro e w1 ⟨rfl,rfl⟩
  go_wp2_with fail
  go_ret;exact⟨by rw[HF.out];rfl,HB.out⟩
 have e3:(k==3)=false:=by simpa using k3
 by_cases k4:k=4
 ·subst k4;clear e2 k2 e3 k3;have HS:=hid (zMp s (w.alloc (Obj.cells #[.int .i64 4,.string s,.int .i64 c,.slice A n cap] 24)) hs);have HF:Hid (YT 4 s=(decide (s.size<=200)&&Yd (bytes s))):=rfl;by_cases h1:s.size<=200
  ·have HG:Hid (YT 4 s=Yd (bytes s)):=by show _=_;rw[HF.out,decide_eq_true h1];rfl
   go_enter Tryz.func100,Tryz.ntmps100
   go_wp2_with fail
   with_reducible refine HS.out.mono ?_
   rintro e w1 ⟨rfl,rfl⟩
   go_wp2_with fail
   go_ret;exact⟨by rw[HG.out];rfl,HB.out⟩
  have HG:Hid (YT 4 s=false):=by show _=_;rw[HF.out,decide_eq_false h1];rfl
  have d1:decide ((s.size:Int)<=200)=false:=decide_eq_false (by omega);go_enter Tryz.func100,Tryz.ntmps100
  go_wp2_with fail
  go_ret;exact⟨by rw[HG.out];rfl,HB.out⟩
 have e4:(k==4)=false:=by simpa using k4
 by_cases af:k=10
 ·subst af;clear e2 k2 e3 k3 e4 k4;have HF:Hid (YT 10 s=YO X5 s):=rfl;obtain⟨W,hW⟩:∃W,W=w.alloc (Obj.cells #[.int .i64 10,.string s,.int .i64 c,.slice A n cap] 24):=⟨_,rfl⟩;have HA:Hid (∀W,Calls Tryz.prog 138 #[] W (Q7 W X5)):=fun W=>zIs W
  have HI:Hid (∀(W:World) (v:Value),Z8 Ye W (Lt W.heap.size) X5 v->Calls Tryz.prog 137 #[v,.string s] W fun e w'=>e=.returned (.bool (YO X5 s))/\W=w'):=fun W v hv=>Rj X5 s W v _ hv
  go_enter Tryz.func100,Tryz.ntmps100
  go_wp2_with fail
  have c1:W.cell? ⟨w.heap.size,1,none⟩=some (.string s):=by rw[hW,World.cell?_alloc_new];rfl
  have z1:w.heap.size<W.heap.size:=by rw[hW];simp
  have ah:Hid (Below w.heap.size w W):=by rw[hW];exact HB.out
  rw[<-hW];clear hW HB
  go_region_held3 (fun w'=>w'.cell? ⟨w.heap.size,1,none⟩=some (.string s)) (go_keep) (first
   |(go_at_call 138;refine(HA.out _).mono ?_;rintro e w1 ⟨A1,c1',rfl,ai,aa⟩;have H1:=hid ai;have ae:Below W.heap.size W w1:=⟨aa.os,aa.tape,aa.output,aa.size,aa.block⟩;have ak:=hid (ah.out.trans (ae.mono ah.out.size));have k1:w1.cell? ⟨w.heap.size,1,none⟩=some (.string s):=((bcell ae).1 _ _ z1).trans c1;clear ai aa ae)
   |(go_at_call 137;refine(HI.out _ _ H1.out).mono ?_;rintro e w2 ⟨rfl,rfl⟩))
  go_wp2_with fail
  go_ret;exact⟨by rw[HF.out];rfl,ak.out⟩
 have aj:(k==10)=false:=by simpa using af
 by_cases ag:k=11
 ·subst ag;clear e2 k2 e3 k3 e4 k4 aj af;have HF:Hid (YT 11 s=(decide (s.size=2)&&Zn (bytes XH) ((bytes s).getD 0 0)&&Zn (bytes XH) ((bytes s).getD 1 0))):=rfl;by_cases h2:s.size=2
  ·have l0:0<s.size:=by omega
   have l1:1<s.size:=by omega
   have HG:Hid (YT 11 s=(Zn (bytes XH) (s[0].toNat:Int)&&Zn (bytes XH) (s[1].toNat:Int))):=by show _=_;rw[HF.out,decide_eq_true h2,zFf s 0 l0,zFf s 1 l1];rfl
   have C0:Hid (∀W,Calls Tryz.prog 139 #[.string XH,.int .u8 (s[0].toNat:Int)] W fun e w'=>e=.returned (.bool (Zn (bytes XH) (s[0].toNat:Int)))/\W=w'):=fun W=>Vw XH _ W (by decide)
   have C1:Hid (∀W,Calls Tryz.prog 139 #[.string XH,.int .u8 (s[1].toNat:Int)] W fun e w'=>e=.returned (.bool (Zn (bytes XH) (s[1].toNat:Int)))/\W=w'):=fun W=>Vw XH _ W (by decide)
   generalize Zn (bytes XH) (s[0].toNat:Int)=b0 at *;generalize Zn (bytes XH) (s[1].toNat:Int)=b1 at *;unfold XH at C0 C1;have d1:((s.size:Int)==2)=true:=by simp;omega
   have i0:(0:Int)<(s.size:Int):=by omega
   have i1:(1:Int)<(s.size:Int):=by omega
   clear h2;cases b0<;>cases b1
   all_goals
    go_enter Tryz.func100,Tryz.ntmps100
    go_wp2_with fail
    refine(C0.out _).mono ?_;rintro e w1 ⟨rfl,rfl⟩
    go_wp2_with fail
    try (refine(C1.out _).mono ?_;rintro e w1 ⟨rfl,rfl⟩;go_wp2_with fail)
    go_ret;exact⟨by rw[HG.out];rfl,HB.out⟩
  have HG:Hid (YT 11 s=false):=by show _=_;rw[HF.out,decide_eq_false h2];rfl
  have d1:((s.size:Int)==2)=false:=by simp;omega
  clear h2;go_enter Tryz.func100,Tryz.ntmps100
  go_wp2_with fail
  go_ret;exact⟨by rw[HG.out];rfl,HB.out⟩
 have e11:(k==11)=false:=by simpa using ag
 have HF:Hid (YT k s=s.toList.isEmpty):=by show _=_;unfold YT;rw[if_neg k2,if_neg k3,if_neg k4,if_neg af,if_neg ag]
 clear k2 k3 k4 af ag;cases hq:s.toList.isEmpty with
 |
  true =>
  rw[hq] at HF;go_enter Tryz.func100,Tryz.ntmps100
  go_wp2_with fail
  go_ret;exact⟨by rw[HF.out];rfl,HB.out⟩
 |
  false =>
  rw[hq] at HF;go_enter Tryz.func100,Tryz.ntmps100
  go_wp2_with fail
  go_ret;exact⟨by rw[HF.out];rfl,HB.out⟩
