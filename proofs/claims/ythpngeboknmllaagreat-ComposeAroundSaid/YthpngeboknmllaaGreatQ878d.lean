/- T -/
import Derived.Test.YthpngeboknmllaaGreatQa218
import Derived.Laws.Tables
import Derived.Laws.Rows
set_option linter.unusedVariables false
set_option linter.unusedSimpArgs false
set_option maxHeartbeats 2000000
set_option maxRecDepth 100000
namespace Go.Proofs.YthpngeboknmllaaGreat
open Go.RowKit
def Rm:Array Value:=#[.string ⟨#[]⟩,.int .i64 0,.nilFunc,.string ⟨#[114,111,119]⟩,.int .i64 0,.func (.func 121) #[] #[],.string ⟨#[115,121,109]⟩,.int .i64 0,.func (.func 122) #[] #[],.string ⟨#[110,117,109]⟩,.int .i64 0,.func (.func 123) #[] #[],.string ⟨#[116,101,120,116]⟩,.int .i64 0,.func (.func 124) #[] #[],.string ⟨#[102,114,97,99]⟩,.int .i64 2,.func (.func 121) #[] #[],.string ⟨#[114,111,111,116]⟩,.int .i64 2,.func (.func 121) #[] #[],.string ⟨#[115,117,98]⟩,.int .i64 2,.func (.func 121) #[] #[],.string ⟨#[115,117,112]⟩,.int .i64 2,.func (.func 121) #[] #[],.string ⟨#[98,111,116,104]⟩,.int .i64 3,.func (.func 121) #[] #[],.string ⟨#[97,99,99,101,110,116]⟩,.int .i64 1,.func (.func 125) #[] #[],.string ⟨#[102,101,110,99,101]⟩,.int .i64 1,.func (.func 126) #[] #[],.string ⟨#[109,97,116,114,105,120]⟩,.int .i64 0,.func (.func 121) #[] #[]]
def Vd:Array Value:=#[.string ⟨#[]⟩,.int .i64 0,.nilFunc,.string ⟨#[114,111,119]⟩,.int .i64 0,.func (.func 121) #[] #[],.string ⟨#[115,121,109]⟩,.int .i64 0,.func (.func 122) #[] #[],.string ⟨#[110,117,109]⟩,.int .i64 0,.func (.func 123) #[] #[],.string ⟨#[116,101,120,116]⟩,.int .i64 0,.func (.func 124) #[] #[],.string ⟨#[102,114,97,99]⟩,.int .i64 2,.func (.func 121) #[] #[],.string ⟨#[114,111,111,116]⟩,.int .i64 2,.func (.func 121) #[] #[],.string ⟨#[115,117,98]⟩,.int .i64 2,.func (.func 121) #[] #[],.string ⟨#[115,117,112]⟩,.int .i64 2,.func (.func 121) #[] #[],.string ⟨#[98,111,116,104]⟩,.int .i64 3,.func (.func 121) #[] #[],.string ⟨#[97,99,99,101,110,116]⟩,.int .i64 1,.func (.func 125) #[] #[],.string ⟨#[102,101,110,99,101]⟩,.int .i64 1,.func (.func 126) #[] #[],.string ⟨#[109,97,116,114,105,120]⟩,.int .i64 0,.func (.func 121) #[] #[],.int .i64 0]
theorem zDw {P:Program} {ops:Array Oper} {rest:List Oper} {o:Oper} {a:Act} {w:World} {Q:Exit->Act->World->Prop} (hg:o.guard=none) (t:TypeId) (parts:Array (Nat×Operand)) (ho:o.op=.build t parts)
  (cells:Array Value) (hf:P.built t (parts.map fun (i,x)=>(i,a.eval x)).toList=some cells)
  (h:wpList P ops Q rest (a.put o.dst (.agg cells)) w):wpList P ops Q (o::rest) a w :=
 wpList_build hg t parts ho (by rw[hf];rfl) (by rw[hf];exact h)
theorem zQt (w:World) (old cs:Array Value) (t:TypeId):Below w.heap.size w ((w.alloc (.cells old t)).setRow w.heap.size cs) :=
 ⟨rfl,rfl,rfl,by simp,fun k hk=>by rw[setRow_other _ _ _ _ (by omega)];exact heap_alloc_old _ _ hk⟩
theorem zLm (w:World):Calls Tryz.prog 92 #[] w fun e w'=>e=.returned (.agg Rm)/\Below w.heap.size w w':=by
 go_enter Tryz.func92,Tryz.ntmps92
 go_wp2_with (first
  |(refine zDw rfl 118 _ rfl Rm (by kernel_rfl) ?_)
  |(refine wpList_store_row rfl 118 (.tmp 0) (.tmp 13) rfl w.heap.size Rm rfl rfl 118 _ (heap_alloc_new w _) (by kernel_rfl) (by kernel_rfl) (by kernel_rfl) ?_))
 exact bodyPost_ret (v:=.agg Rm) (results_cell_row Tryz.results92 _ _ w.heap.size 118 Rm (0,0) _ rfl (setRow_heap _ _ _ _ _ _ (heap_alloc_new w _)) Tryz.underlying118 rfl (by kernel_rfl)) rfl ⟨rfl,zQt w _ _ _⟩
theorem TY (w:World) (e:TypeId):Wj (w.alloc (.cells Vd e)) w.heap.size 0:=by
 unfold Wj WC;simp only[World.cell?_alloc_new];refine⟨?_,by kernel_rfl,World.frozen?_alloc_new _ _ _ _⟩;refine⟨⟨by kernel_rfl,by kernel_rfl⟩,⟨by kernel_rfl,by kernel_rfl⟩,⟨by kernel_rfl,by kernel_rfl⟩,⟨by kernel_rfl,by kernel_rfl⟩,⟨by kernel_rfl,by kernel_rfl⟩,⟨by kernel_rfl,by kernel_rfl⟩,⟨by kernel_rfl,by kernel_rfl⟩,⟨by kernel_rfl,by kernel_rfl⟩,⟨by kernel_rfl,by kernel_rfl⟩,⟨by kernel_rfl,by kernel_rfl⟩,⟨by kernel_rfl,by kernel_rfl⟩,⟨by kernel_rfl,by kernel_rfl⟩⟩
theorem zPe (t:Z9):ZN t=((t.kind==1)&&XJ t 0 1):=by
 unfold ZN;rw[zP7,Bool.eq_iff_iff];simp only[Bool.and_eq_true,decide_eq_true_eq];constructor
 ·rintro ⟨⟨⟨a,b⟩,c⟩,d⟩;exact⟨a,b,by omega,by omega⟩
 rintro ⟨a,b,c,d⟩;exact⟨⟨⟨a,b⟩,by omega⟩,by omega⟩
theorem UN (t:Z9) (A:Option Addr) (cap:Nat) (w:World) (hv:Z8 Z7 w (Lt w.heap.size) t.kids (.slice A t.kids.length cap)) (af:t.text.size<=maxLen) :
  Calls Tryz.prog 53 #[.agg #[.int .i64 t.kind,.string t.text,.int .i64 t.cols,.slice A t.kids.length cap]] w fun e w'=>e=.returned (.bool (ZN t))/\Below w.heap.size w w':=by
 have HV:=hid (zPe t);have au:Hid (∀W,Below (w.alloc (Obj.cells #[.int .i64 t.kind,.string t.text,.int .i64 t.cols,.slice A t.kids.length cap] 24)).heap.size (w.alloc (Obj.cells #[.int .i64 t.kind,.string t.text,.int .i64 t.cols,.slice A t.kids.length cap] 24)) W ->
   Calls Tryz.prog 93 #[.pointer (some ⟨W.heap.size,0,none⟩),.pointer (some ⟨w.heap.size,0,none⟩),.int .i64 1] (W.alloc (.cells Vd 121)) fun e w'=>e=.returned (.bool (XJ t 0 1))/\Below w.heap.size w w'):=by
  intro W hW;have ai:Below w.heap.size w (w.alloc (Obj.cells #[.int .i64 t.kind,.string t.text,.int .i64 t.cols,.slice A t.kids.length cap] 24)):=(QQ _ _).alloc (QT _) _;have ae:Below w.heap.size w W:=ai.trans (hW.mono ai.size);have hz:w.heap.size<W.heap.size:=by have:=hW.size;simp at this;omega
  have ag:Below W.heap.size W (W.alloc (.cells Vd 121)):=(QQ _ _).alloc (QT _) _;obtain⟨_,_,rs,hq,h1,h2,h3,h4⟩:=hv.below ae ae.size;cases hq;have hn:Ww W (Lt W.heap.size) w.heap.size 0 t A cap rs:=by
   obtain⟨n0,n1,n2,n3⟩:=(Yu.new w t.kind t.cols t.text (.slice A t.kids.length cap)).below hW (by simp);exact⟨⟨n0,n1,n2,n3⟩,hz,af,h1,h2,h3,h4⟩
  refine(TW t _ W.heap.size w.heap.size 0 A cap rs 0 1 (hn.below ag) (TY W _) (by omega) (by omega)).mono ?_;rintro e w' ⟨he,hb,_⟩;exact⟨he,ae.trans ((ag.trans hb).mono ae.size)⟩
 have ak:Hid (Below w.heap.size w (w.alloc (Obj.cells #[.int .i64 t.kind,.string t.text,.int .i64 t.cols,.slice A t.kids.length cap] 24))):=(QQ _ _).alloc (QT _) _;have KB:Hid (∀W,Below (w.alloc (Obj.cells #[.int .i64 t.kind,.string t.text,.int .i64 t.cols,.slice A t.kids.length cap] 24)).heap.size (w.alloc (Obj.cells #[.int .i64 t.kind,.string t.text,.int .i64 t.cols,.slice A t.kids.length cap] 24)) W->W.cell? ⟨w.heap.size,0,none⟩=some (.int .i64 t.kind)/\w.heap.size<W.heap.size) :=
  fun W hW=>⟨((Yu.new w t.kind t.cols t.text (.slice A t.kids.length cap)).below hW (by simp)).1,by have:=hW.size;simp at this;omega⟩
 rw[HV.out];clear hv af HV;generalize XJ t 0 1=b at *;obtain⟨tk,tx,tc,ts⟩:=t;simp only[Z9.kind,Z9.text,Z9.cols,Z9.kids] at *;cases h1:(tk==1)
 ·go_enter Tryz.func53,Tryz.ntmps53
  go_wp2_with fail
  refine(zLm _).mono ?_;rintro e w1 ⟨rfl,aa⟩;have aj:=hid (ak.out.trans (aa.mono ak.out.size));obtain⟨q0,z0⟩:=KB.out w1 aa;clear aa
  go_wp2_with (refine zDw rfl 121 _ rfl Vd (by kernel_rfl) ?_)
  go_ret;exact⟨rfl,aj.out.trans ((QQ _ _).alloc aj.out.size _)⟩
 go_enter Tryz.func53,Tryz.ntmps53
 go_wp2_with fail
 refine(zLm _).mono ?_;rintro e w1 ⟨rfl,aa⟩;have av:=hid (au.out w1 aa);obtain⟨q0,z0⟩:=KB.out w1 aa;clear aa
 go_wp2_with (first|(refine zDw rfl 121 _ rfl Vd (by kernel_rfl) ?_)|(go_at_call 93;refine av.out.mono ?_;rintro e w2 ⟨rfl,ah⟩;have ax:=hid ah;clear ah))
 go_ret;exact⟨rfl,ax.out⟩
theorem XE {B:Nat} {a w:World} (h:Below B a w) (n:Nat):Below B a (w.drewN n):=⟨h.os,h.tape,h.output,h.size,h.block⟩
theorem zP2 (t:Z9) (i k:Int):ZA t [i,k]=false:=by
 unfold ZA;split
 ·split
  ·simp[ZA]
  rfl
 rfl
theorem SS (t:Z9) (p:List Int) (A:Option Addr) (cap:Nat) (b:Value) (w:World) (hv:Z8 Z7 w (Lt w.heap.size) t.kids (.slice A t.kids.length cap)) (aA:t.text.size<=maxLen) (hp:Z0 w (Lt w.heap.size) p b) :
  Calls Tryz.prog 145 #[.agg #[.int .i64 t.kind,.string t.text,.int .i64 t.cols,.slice A t.kids.length cap],b] w fun e w'=>e=.returned (.bool (ZA t p))/\Below w.heap.size w w':=by
 have ai:Below w.heap.size w (w.alloc (Obj.cells #[.int .i64 t.kind,.string t.text,.int .i64 t.cols,.slice A t.kids.length cap] 24)):=(QQ _ _).alloc (QT _) _;have aK:=hv.below ai ai.size;have HN:Hid (∃rs,Ww (w.alloc (Obj.cells #[.int .i64 t.kind,.string t.text,.int .i64 t.cols,.slice A t.kids.length cap] 24)) (Lt (w.alloc (Obj.cells #[.int .i64 t.kind,.string t.text,.int .i64 t.cols,.slice A t.kids.length cap] 24)).heap.size) w.heap.size 0 t A cap rs):=by
  obtain⟨_,_,rs,hq,h1,h2,h3,h4⟩:=aK;cases hq;exact⟨rs,Yu.new w t.kind t.cols t.text (.slice A t.kids.length cap),by unfold Lt;simp,aA,h1,h2,h3,h4⟩
 have HP:=hid (hp.below ai ai.size);have aa:=hid ai;obtain⟨tk,tx,tc,ts⟩:=t;simp only[Z9.kind,Z9.text,Z9.cols,Z9.kids] at *;obtain⟨A',cap',rfl⟩:=hp.form;clear hv aA hp ai aK;go_enter Tryz.func145,Tryz.ntmps145
 go_wp2_with fail
 generalize aP:w.alloc (Obj.cells #[.int .i64 tk,.string tx,.int .i64 tc,.slice A ts.length cap] 24)=W0 at *;have z0:w.heap.size<W0.heap.size:=by rw[<-aP];simp
 clear aP
 go_loopw [1,5] (fun c r wr=>(∃n,wr=W0.drewN n)/\∃(p':List Int) (t':Z9) (g o:Nat) (A1:Option Addr) (ax:Nat) (rs:List Value),r=.pointer (some ⟨g,o,none⟩)/\Z0 W0 (Lt W0.heap.size) p' c/\Ww W0 (Lt W0.heap.size) g o t' A1 ax rs/\ZA t' p'=ZA (.mk tk tx tc ts) p)
  (fun c _ _=>match c with|.slice _ n _=>n|_=>0)
 case atStart =>
  obtain⟨rs,hN⟩:=HN.out;exact⟨⟨0,rfl⟩,p,.mk tk tx tc ts,w.heap.size,0,A,cap,rs,rfl,HP.out,hN,rfl⟩
 obtain⟨⟨n,rfl⟩,p',t',g,o,A1,ax,rs,rfl,aL,hn,ag⟩:=hrel;have HR:=hid ag;have aj:=hid aL;obtain⟨⟨c0,c1,c2,c3⟩,hg,aA,h4,h5,h6,h7⟩:=hn;obtain⟨A2,aH,ws,rfl,h8,h9,af,ae⟩:=aL;have av:p'.length<=9223372036854775807:=by unfold maxLen at h9;omega
 have hl2:t'.kids.length<=9223372036854775807:=by unfold maxLen at h5;omega
 have hgl:g<W0.heap.size:=hg;clear ag HN HP
 match p',av,HR,aj,h8,af,ae with
 |
  [],av,HR,aj,h8,af,ae =>
  have HF:Hid (ZA (.mk tk tx tc ts) p=false):=by show _=_;rw[<-HR.out];simp[ZA]
  clear af ae h6 h7
  go_wp2_with fail
  go_quiet (fail)
  go_wp2_with fail
  go_ret;exact⟨by rw[HF.out];rfl,by first|exact XE aa.out _|(simp only[World.drewN_drewN];exact XE aa.out _)⟩
 |
  [i],av,HR,aj,h8,af,ae =>
  obtain⟨g',o',rfl,aU,hi,a0⟩:=YG af ae (k:=0) (by simp);simp only[List.getElem_cons_zero,Nat.add_zero] at a0 hi;have HF:Hid (ZA (.mk tk tx tc ts) p=decide (0<=i/\i<=t'.kids.length)):=by show _=_;rw[<-HR.out];simp[ZA]
  clear af ae h6 h7;simp only[List.length_cons,List.length_nil,Nat.zero_add];by_cases k0:0<=i
  ·have d0:decide (0<=i)=true:=decide_eq_true k0;by_cases k1:i<=(t'.kids.length:Int)
   ·have d1:decide (i<=(t'.kids.length:Int))=true:=decide_eq_true k1;rw[decide_eq_true (show 0<=i/\i<=(t'.kids.length:Int) from ⟨k0,k1⟩)] at HF
    go_wp2_with fail
    go_quiet (fail)
    go_wp2_with fail
    go_ret;exact⟨by rw[HF.out];first|rfl|(simp;omega),by first|exact XE aa.out _|(simp only[World.drewN_drewN];exact XE aa.out _)⟩
   have d1:decide (i<=(t'.kids.length:Int))=false:=decide_eq_false k1;rw[decide_eq_false (show ¬(0<=i/\i<=(t'.kids.length:Int)) from fun h=>k1 h.2)] at HF
   go_wp2_with fail
   go_quiet (fail)
   go_wp2_with fail
   go_ret;exact⟨by rw[HF.out];first|rfl|(simp;omega),by first|exact XE aa.out _|(simp only[World.drewN_drewN];exact XE aa.out _)⟩
  have d0:decide (0<=i)=false:=decide_eq_false k0;rw[decide_eq_false (show ¬(0<=i/\i<=(t'.kids.length:Int)) from fun h=>k0 h.1)] at HF
  go_wp2_with fail
  go_quiet (fail)
  go_wp2_with fail
  go_ret;exact⟨by rw[HF.out];first|rfl|(simp;omega),by first|exact XE aa.out _|(simp only[World.drewN_drewN];exact XE aa.out _)⟩
 |
  [i,k],av,HR,aj,h8,af,ae =>
  have HF:Hid (ZA (.mk tk tx tc ts) p=false):=by show _=_;rw[<-HR.out,zP2]
  clear af ae h6 h7;simp only[List.length_cons,List.length_nil,Nat.zero_add]
  go_wp2_with fail
  go_quiet (fail)
  go_wp2_with fail
  go_ret;exact⟨by rw[HF.out];rfl,by first|exact XE aa.out _|(simp only[World.drewN_drewN];exact XE aa.out _)⟩
 |
  i::k::x::q,av,HR,aj,h8,af,ae =>
  obtain⟨g',o',rfl,aU,hi,a0⟩:=YG af ae (k:=0) (by simp);obtain⟨g2,o2,hq,hg2,hk,a1⟩:=YG af ae (k:=1) (by simp);cases hq;simp only[List.getElem_cons_zero,List.getElem_cons_succ,Nat.add_zero] at a0 a1 hi hk;obtain⟨A3,aQ,hcut⟩:=Wn ZF Tryz.underlying25 XA (some ⟨g',o',none⟩) (i::k::x::q).length aH 2 2 rfl (by simp);have aJ:=hid (hcut _ _ _ aj.out);simp only[List.drop_succ_cons,List.drop_zero] at aJ;have i3:(3:Int)<=((i::k::x::q).length:Int):=by simp;omega
  have ah:(i::k::x::q).length-2=(x::q).length:=by simp
  have aR:Hid ((x::q).length<(i::k::x::q).length):=by show _<_;simp
  rw[ah] at aQ aJ;have m0:(0:Int)<((i::k::x::q).length:Int):=by simp;omega
  have m2:0<(i::k::x::q).length:=by simp
  have m1:1<(i::k::x::q).length:=by simp
  have m3:(1:Int)<((i::k::x::q).length:Int):=by simp;omega
  clear hcut ah af ae;generalize (i::k::x::q).length=m at *;have HX:Hid (ZA (.mk tk tx tc ts) p=ZA t' (i::k::x::q)):=HR.out.symm;have aI:=hid (show ZA t' (i::k::x::q)=_ by rw[ZA]);clear HR;by_cases hx:0<=i/\i.toNat<t'.kids.length
  ·obtain⟨hx1,ay⟩:=hx;obtain⟨i',rfl⟩:∃i':Nat,i=i':=⟨i.toNat,by omega⟩;simp only[Int.toNat_natCast] at ay;obtain⟨gk,ok,B1,b1,bs1,rfl,aT,t0,t1,t2,t3,_,_,hts,aO,aG,aC,aD⟩:=Y5 h6 h7 ay;have j0:decide ((i':Int)<0)=false:=by simp
   have j1:¬(i':Int)<0:=by omega
   have j2:decide ((t'.kids.length:Int)<=i')=false:=by simp;omega
   have j3:(i':Int)<(t'.kids.length:Int):=by omega
   have aS:gk<W0.heap.size:=aT;have hl3:t'.kids[i'].kids.length<=9223372036854775807:=by unfold maxLen at aG;omega
   by_cases hy:0<=k/\k.toNat<t'.kids[i'].kids.length
   ·obtain⟨hy1,az⟩:=hy;obtain⟨k',rfl⟩:∃k':Nat,k=k':=⟨k.toNat,by omega⟩;simp only[Int.toNat_natCast] at az;obtain⟨gl,ol,B2,b2,aV,rfl,aF,s0,s1,s2,s3,_,_,aB,aN,aM,ak,au⟩:=Y5 aC aD az;have j4:decide ((k':Int)<0)=false:=by simp
    have j5:¬(k':Int)<0:=by omega
    have j6:decide ((t'.kids[i'].kids.length:Int)<=k')=false:=by simp;omega
    have j7:(k':Int)<(t'.kids[i'].kids.length:Int):=by omega
    have HF:Hid (ZA t'.kids[i'].kids[k'] (x::q)=ZA (.mk tk tx tc ts) p):=by
     show _=_;rw[HX.out,ZA,dif_pos ⟨by omega,by simpa using ay⟩,dif_pos ⟨by omega,by simpa using az⟩];rfl
    have aW:Hid (Ww W0 (Lt W0.heap.size) gl (ol+k'*4) t'.kids[i'].kids[k'] B2 b2 aV):=⟨⟨s0,s1,s2,s3⟩,aF,aB,aN,aM,ak,au⟩;clear aC aD ak au h6 h7 HX aI aN aM aO aG
    go_wp2_with fail
    go_quiet (fail)
    go_wp2_with fail
    go_roundw
    case rel=>exact⟨by first|exact⟨_,rfl⟩|(simp only[World.drewN_drewN];exact⟨_,rfl⟩),x::q,_,_,_,_,_,_,rfl,aJ.out,aW.out,HF.out⟩
    case measure=>exact aR.out
   have HF:Hid (ZA (.mk tk tx tc ts) p=false):=by
    show _=_;rw[HX.out,ZA,dif_pos ⟨by omega,by simpa using ay⟩,dif_neg (by simpa using hy)]
   have i2:k<0\/(0<=k/\(t'.kids[i'].kids.length:Int)<=k):=by omega
   clear aC aD h6 h7 HX aI aO aG hy;rcases i2 with i2|⟨i2,i3⟩
   ·have j4:decide (k<0)=true:=decide_eq_true i2
    go_wp2_with fail
    go_quiet (fail)
    go_wp2_with fail
    go_ret;exact⟨by rw[HF.out];rfl,by first|exact XE aa.out _|(simp only[World.drewN_drewN];exact XE aa.out _)⟩
   have j4:decide (k<0)=false:=by simp;omega
   have j5:decide ((t'.kids[i'].kids.length:Int)<=k)=true:=decide_eq_true i3
   go_wp2_with fail
   go_quiet (fail)
   go_wp2_with fail
   go_ret;exact⟨by rw[HF.out];rfl,by first|exact XE aa.out _|(simp only[World.drewN_drewN];exact XE aa.out _)⟩
  have HF:Hid (ZA (.mk tk tx tc ts) p=false):=by show _=_;rw[HX.out,ZA,dif_neg hx]
  have i2:i<0\/(0<=i/\(t'.kids.length:Int)<=i):=by omega
  clear h6 h7 HX aI hx;rcases i2 with i2|⟨i2,i3⟩
  ·have j4:decide (i<0)=true:=decide_eq_true i2
   go_wp2_with fail
   go_quiet (fail)
   go_wp2_with fail
   go_ret;exact⟨by rw[HF.out];rfl,by first|exact XE aa.out _|(simp only[World.drewN_drewN];exact XE aa.out _)⟩
  have j4:decide (i<0)=false:=by simp;omega
  have j5:decide ((t'.kids.length:Int)<=i)=true:=decide_eq_true i3
  go_wp2_with fail
  go_quiet (fail)
  go_wp2_with fail
  go_ret;exact⟨by rw[HF.out];rfl,by first|exact XE aa.out _|(simp only[World.drewN_drewN];exact XE aa.out _)⟩
