/- T -/
import Derived.Test.YthpngeboknmllaaGreatQb243
import Derived.Laws.Tables
import Derived.Laws.Rows
set_option linter.unusedVariables false
set_option linter.unusedSimpArgs false
set_option maxHeartbeats 2000000
set_option maxRecDepth 100000
namespace Go.Proofs.YthpngeboknmllaaGreat
open Go.RowKit
def zLn:Array Value:=#[.string ⟨#[]⟩,.int .i64 0,.nilFunc,.string ⟨#[114,111,119]⟩,.int .i64 0,.func (.func 121) #[] #[],.string ⟨#[115,121,109]⟩,.int .i64 0,.func (.func 122) #[] #[],.string ⟨#[110,117,109]⟩,.int .i64 0,.func (.func 123) #[] #[],.string ⟨#[116,101,120,116]⟩,.int .i64 0,.func (.func 124) #[] #[],.string ⟨#[102,114,97,99]⟩,.int .i64 2,.func (.func 121) #[] #[],.string ⟨#[114,111,111,116]⟩,.int .i64 2,.func (.func 121) #[] #[],.string ⟨#[115,117,98]⟩,.int .i64 2,.func (.func 121) #[] #[],.string ⟨#[115,117,112]⟩,.int .i64 2,.func (.func 121) #[] #[],.string ⟨#[98,111,116,104]⟩,.int .i64 3,.func (.func 121) #[] #[],.string ⟨#[97,99,99,101,110,116]⟩,.int .i64 1,.func (.func 125) #[] #[],.string ⟨#[102,101,110,99,101]⟩,.int .i64 1,.func (.func 126) #[] #[],.string ⟨#[109,97,116,114,105,120]⟩,.int .i64 0,.func (.func 121) #[] #[]]
def Uu:Array Value:=#[.string ⟨#[]⟩,.int .i64 0,.nilFunc,.string ⟨#[114,111,119]⟩,.int .i64 0,.func (.func 121) #[] #[],.string ⟨#[115,121,109]⟩,.int .i64 0,.func (.func 122) #[] #[],.string ⟨#[110,117,109]⟩,.int .i64 0,.func (.func 123) #[] #[],.string ⟨#[116,101,120,116]⟩,.int .i64 0,.func (.func 124) #[] #[],.string ⟨#[102,114,97,99]⟩,.int .i64 2,.func (.func 121) #[] #[],.string ⟨#[114,111,111,116]⟩,.int .i64 2,.func (.func 121) #[] #[],.string ⟨#[115,117,98]⟩,.int .i64 2,.func (.func 121) #[] #[],.string ⟨#[115,117,112]⟩,.int .i64 2,.func (.func 121) #[] #[],.string ⟨#[98,111,116,104]⟩,.int .i64 3,.func (.func 121) #[] #[],.string ⟨#[97,99,99,101,110,116]⟩,.int .i64 1,.func (.func 125) #[] #[],.string ⟨#[102,101,110,99,101]⟩,.int .i64 1,.func (.func 126) #[] #[],.string ⟨#[109,97,116,114,105,120]⟩,.int .i64 0,.func (.func 121) #[] #[],.int .i64 0]
theorem zDw {P:Program} {ops:Array Oper} {rest:List Oper} {o:Oper} {a:Act} {w:World} {Q:Exit->Act->World->Prop} (hg:o.guard=none) (t:TypeId) (parts:Array (Nat×Operand)) (ho:o.op=.build t parts)
  (cells:Array Value) (hf:P.built t (parts.map fun (i,x)=>(i,a.eval x)).toList=some cells)
  (h:wpList P ops Q rest (a.put o.dst (.agg cells)) w):wpList P ops Q (o::rest) a w :=
 wpList_build hg t parts ho (by rw[hf];rfl) (by rw[hf];exact h)
theorem zQt (w:World) (old cs:Array Value) (t:TypeId):Below w.heap.size w ((w.alloc (.cells old t)).setRow w.heap.size cs) :=
 ⟨rfl,rfl,rfl,by simp,fun k hk=>by rw[setRow_other _ _ _ _ (by omega)];exact heap_alloc_old _ _ hk⟩
theorem zLm (w:World):Calls Tryz.prog 92 #[] w fun e w'=>e=.returned (.agg zLn)/\Below w.heap.size w w':=by
 go_enter Tryz.func92,Tryz.ntmps92
 go_wp2_with (first
  |(refine zDw rfl 118 _ rfl zLn (by kernel_rfl) ?_)
  |(refine wpList_store_row rfl 118 (.tmp 0) (.tmp 13) rfl w.heap.size zLn rfl rfl 118 _ (heap_alloc_new w _) (by kernel_rfl) (by kernel_rfl) (by kernel_rfl) ?_))
 exact bodyPost_ret (v:=.agg zLn) (results_cell_row Tryz.results92 _ _ w.heap.size 118 zLn (0,0) _ rfl (setRow_heap _ _ _ _ _ _ (heap_alloc_new w _)) Tryz.underlying118 rfl (by kernel_rfl)) rfl ⟨rfl,zQt w _ _ _⟩
theorem Sz (w:World) (e:TypeId):VK (w.alloc (.cells Uu e)) w.heap.size 0:=by
 unfold VK Wm;simp only[World.cell?_alloc_new];refine⟨?_,by kernel_rfl,World.frozen?_alloc_new _ _ _ _⟩;refine⟨⟨by kernel_rfl,by kernel_rfl⟩,⟨by kernel_rfl,by kernel_rfl⟩,⟨by kernel_rfl,by kernel_rfl⟩,⟨by kernel_rfl,by kernel_rfl⟩,⟨by kernel_rfl,by kernel_rfl⟩,⟨by kernel_rfl,by kernel_rfl⟩,⟨by kernel_rfl,by kernel_rfl⟩,⟨by kernel_rfl,by kernel_rfl⟩,⟨by kernel_rfl,by kernel_rfl⟩,⟨by kernel_rfl,by kernel_rfl⟩,⟨by kernel_rfl,by kernel_rfl⟩,⟨by kernel_rfl,by kernel_rfl⟩⟩
theorem zPe (t:Z9):ZU t=((t.kind==1)&&XH t 0 1):=by
 unfold ZU;rw[zP7,Bool.eq_iff_iff];simp only[Bool.and_eq_true,decide_eq_true_eq];constructor
 ·rintro ⟨⟨⟨a,b⟩,c⟩,d⟩;exact⟨a,b,by omega,by omega⟩
 rintro ⟨a,b,c,d⟩;exact⟨⟨⟨a,b⟩,by omega⟩,by omega⟩
theorem Wh (t:Z9) (A:Option Addr) (cap:Nat) (w:World) (hv:Z8 Z6 w (Lt w.heap.size) t.kids (.slice A t.kids.length cap)) (af:t.text.size<=maxLen) :
  Calls Tryz.prog 53 #[.agg #[.int .i64 t.kind,.string t.text,.int .i64 t.cols,.slice A t.kids.length cap]] w fun e w'=>e=.returned (.bool (ZU t))/\Below w.heap.size w w':=by
 have HV:=hid (zPe t);have av:Hid (∀W,Below (w.alloc (Obj.cells #[.int .i64 t.kind,.string t.text,.int .i64 t.cols,.slice A t.kids.length cap] 24)).heap.size (w.alloc (Obj.cells #[.int .i64 t.kind,.string t.text,.int .i64 t.cols,.slice A t.kids.length cap] 24)) W ->
   Calls Tryz.prog 93 #[.pointer (some ⟨W.heap.size,0,none⟩),.pointer (some ⟨w.heap.size,0,none⟩),.int .i64 1] (W.alloc (.cells Uu 121)) fun e w'=>e=.returned (.bool (XH t 0 1))/\Below w.heap.size w w'):=by
  intro W hW;have aj:Below w.heap.size w (w.alloc (Obj.cells #[.int .i64 t.kind,.string t.text,.int .i64 t.cols,.slice A t.kids.length cap] 24)):=(Qg _ _).alloc (Qi _) _;have ae:Below w.heap.size w W:=aj.trans (hW.mono aj.size);have hz:w.heap.size<W.heap.size:=by have:=hW.size;simp at this;omega
  have ag:Below W.heap.size W (W.alloc (.cells Uu 121)):=(Qg _ _).alloc (Qi _) _;obtain⟨_,_,rs,hq,h1,h2,h3,h4⟩:=hv.below ae ae.size;cases hq;have hn:V6 W (Lt W.heap.size) w.heap.size 0 t A cap rs:=by
   obtain⟨n0,n1,n2,n3⟩:=(YS.new w t.kind t.cols t.text (.slice A t.kids.length cap)).below hW (by simp);exact⟨⟨n0,n1,n2,n3⟩,hz,af,h1,h2,h3,h4⟩
  refine(Sy t _ W.heap.size w.heap.size 0 A cap rs 0 1 (hn.below ag) (Sz W _) (by omega) (by omega)).mono ?_;rintro e w' ⟨he,hb,_⟩;exact⟨he,ae.trans ((ag.trans hb).mono ae.size)⟩
 have au:Hid (Below w.heap.size w (w.alloc (Obj.cells #[.int .i64 t.kind,.string t.text,.int .i64 t.cols,.slice A t.kids.length cap] 24))):=(Qg _ _).alloc (Qi _) _;have KB:Hid (∀W,Below (w.alloc (Obj.cells #[.int .i64 t.kind,.string t.text,.int .i64 t.cols,.slice A t.kids.length cap] 24)).heap.size (w.alloc (Obj.cells #[.int .i64 t.kind,.string t.text,.int .i64 t.cols,.slice A t.kids.length cap] 24)) W->W.cell? ⟨w.heap.size,0,none⟩=some (.int .i64 t.kind)/\w.heap.size<W.heap.size) :=
  fun W hW=>⟨((YS.new w t.kind t.cols t.text (.slice A t.kids.length cap)).below hW (by simp)).1,by have:=hW.size;simp at this;omega⟩
 rw[HV.out];clear hv af HV;generalize XH t 0 1=b at *;obtain⟨tk,tx,tc,ts⟩:=t;simp only[Z9.kind,Z9.text,Z9.cols,Z9.kids] at *;cases h1:(tk==1)
 ·go_enter Tryz.func53,Tryz.ntmps53
  go_wp2_with fail
  refine(zLm _).mono ?_;rintro e w1 ⟨rfl,aa⟩;have ak:=hid (au.out.trans (aa.mono au.out.size));obtain⟨q0,z0⟩:=KB.out w1 aa;clear aa
  go_wp2_with (refine zDw rfl 121 _ rfl Uu (by kernel_rfl) ?_)
  go_ret;exact⟨rfl,ak.out.trans ((Qg _ _).alloc ak.out.size _)⟩
 go_enter Tryz.func53,Tryz.ntmps53
 go_wp2_with fail
 refine(zLm _).mono ?_;rintro e w1 ⟨rfl,aa⟩;have ax:=hid (av.out w1 aa);obtain⟨q0,z0⟩:=KB.out w1 aa;clear aa
 go_wp2_with (first|(refine zDw rfl 121 _ rfl Uu (by kernel_rfl) ?_)|(go_at_call 93;refine ax.out.mono ?_;rintro e w2 ⟨rfl,ah⟩;have ay:=hid ah;clear ah))
 go_ret;exact⟨rfl,ay.out⟩
theorem XD {B:Nat} {a w:World} (h:Below B a w) (n:Nat):Below B a (w.drewN n):=⟨h.os,h.tape,h.output,h.size,h.block⟩
theorem zP2 (t:Z9) (i k:Int):ZO t [i,k]=false:=by
 unfold ZO;split
 ·split
  ·simp[ZO]
  rfl
 rfl
theorem UR (t:Z9) (p:List Int) (A:Option Addr) (cap:Nat) (b:Value) (w:World) (hv:Z8 Z6 w (Lt w.heap.size) t.kids (.slice A t.kids.length cap)) (aB:t.text.size<=maxLen) (hp:Z0 w (Lt w.heap.size) p b) :
  Calls Tryz.prog 145 #[.agg #[.int .i64 t.kind,.string t.text,.int .i64 t.cols,.slice A t.kids.length cap],b] w fun e w'=>e=.returned (.bool (ZO t p))/\Below w.heap.size w w':=by
 have aj:Below w.heap.size w (w.alloc (Obj.cells #[.int .i64 t.kind,.string t.text,.int .i64 t.cols,.slice A t.kids.length cap] 24)):=(Qg _ _).alloc (Qi _) _;have aL:=hv.below aj aj.size;have HN:Hid (∃rs,V6 (w.alloc (Obj.cells #[.int .i64 t.kind,.string t.text,.int .i64 t.cols,.slice A t.kids.length cap] 24)) (Lt (w.alloc (Obj.cells #[.int .i64 t.kind,.string t.text,.int .i64 t.cols,.slice A t.kids.length cap] 24)).heap.size) w.heap.size 0 t A cap rs):=by
  obtain⟨_,_,rs,hq,h1,h2,h3,h4⟩:=aL;cases hq;exact⟨rs,YS.new w t.kind t.cols t.text (.slice A t.kids.length cap),by unfold Lt;simp,aB,h1,h2,h3,h4⟩
 have HP:=hid (hp.below aj aj.size);have aa:=hid aj;obtain⟨tk,tx,tc,ts⟩:=t;simp only[Z9.kind,Z9.text,Z9.cols,Z9.kids] at *;obtain⟨A',cap',rfl⟩:=hp.form;clear hv aB hp aj aL;go_enter Tryz.func145,Tryz.ntmps145
 go_wp2_with fail
 generalize aQ:w.alloc (Obj.cells #[.int .i64 tk,.string tx,.int .i64 tc,.slice A ts.length cap] 24)=W0 at *;have z0:w.heap.size<W0.heap.size:=by rw[<-aQ];simp
 clear aQ
 go_loopw [1,5] (fun c r wr=>(∃n,wr=W0.drewN n)/\∃(p':List Int) (t':Z9) (g o:Nat) (A1:Option Addr) (ay:Nat) (rs:List Value),r=.pointer (some ⟨g,o,none⟩)/\Z0 W0 (Lt W0.heap.size) p' c/\V6 W0 (Lt W0.heap.size) g o t' A1 ay rs/\ZO t' p'=ZO (.mk tk tx tc ts) p)
  (fun c _ _=>match c with|.slice _ n _=>n|_=>0)
 case atStart =>
  obtain⟨rs,hN⟩:=HN.out;exact⟨⟨0,rfl⟩,p,.mk tk tx tc ts,w.heap.size,0,A,cap,rs,rfl,HP.out,hN,rfl⟩
 obtain⟨⟨n,rfl⟩,p',t',g,o,A1,ay,rs,rfl,aM,hn,ag⟩:=hrel;have HR:=hid ag;have ak:=hid aM;obtain⟨⟨c0,c1,c2,c3⟩,hg,aB,h4,h5,h6,h7⟩:=hn;obtain⟨A2,aI,ws,rfl,h8,h9,af,ae⟩:=aM;have ax:p'.length<=9223372036854775807:=by unfold maxLen at h9;omega
 have hl2:t'.kids.length<=9223372036854775807:=by unfold maxLen at h5;omega
 have hgl:g<W0.heap.size:=hg;clear ag HN HP
 match p',ax,HR,ak,h8,af,ae with
 |
  [],ax,HR,ak,h8,af,ae =>
  have HF:Hid (ZO (.mk tk tx tc ts) p=false):=by show _=_;rw[<-HR.out];simp[ZO]
  clear af ae h6 h7
  go_wp2_with fail
  go_quiet (fail)
  go_wp2_with fail
  go_ret;exact⟨by rw[HF.out];rfl,by first|exact XD aa.out _|(simp only[World.drewN_drewN];exact XD aa.out _)⟩
 |
  [i],ax,HR,ak,h8,af,ae =>
  obtain⟨g',o',rfl,aV,hi,a0⟩:=X5 af ae (k:=0) (by simp);simp only[List.getElem_cons_zero,Nat.add_zero] at a0 hi;have HF:Hid (ZO (.mk tk tx tc ts) p=decide (0<=i/\i<=t'.kids.length)):=by show _=_;rw[<-HR.out];simp[ZO]
  clear af ae h6 h7;simp only[List.length_cons,List.length_nil,Nat.zero_add];by_cases k0:0<=i
  ·have d0:decide (0<=i)=true:=decide_eq_true k0;by_cases k1:i<=(t'.kids.length:Int)
   ·have d1:decide (i<=(t'.kids.length:Int))=true:=decide_eq_true k1;rw[decide_eq_true (show 0<=i/\i<=(t'.kids.length:Int) from ⟨k0,k1⟩)] at HF
    go_wp2_with fail
    go_quiet (fail)
    go_wp2_with fail
    go_ret;exact⟨by rw[HF.out];first|rfl|(simp;omega),by first|exact XD aa.out _|(simp only[World.drewN_drewN];exact XD aa.out _)⟩
   have d1:decide (i<=(t'.kids.length:Int))=false:=decide_eq_false k1;rw[decide_eq_false (show ¬(0<=i/\i<=(t'.kids.length:Int)) from fun h=>k1 h.2)] at HF
   go_wp2_with fail
   go_quiet (fail)
   go_wp2_with fail
   go_ret;exact⟨by rw[HF.out];first|rfl|(simp;omega),by first|exact XD aa.out _|(simp only[World.drewN_drewN];exact XD aa.out _)⟩
  have d0:decide (0<=i)=false:=decide_eq_false k0;rw[decide_eq_false (show ¬(0<=i/\i<=(t'.kids.length:Int)) from fun h=>k0 h.1)] at HF
  go_wp2_with fail
  go_quiet (fail)
  go_wp2_with fail
  go_ret;exact⟨by rw[HF.out];first|rfl|(simp;omega),by first|exact XD aa.out _|(simp only[World.drewN_drewN];exact XD aa.out _)⟩
 |
  [i,k],ax,HR,ak,h8,af,ae =>
  have HF:Hid (ZO (.mk tk tx tc ts) p=false):=by show _=_;rw[<-HR.out,zP2]
  clear af ae h6 h7;simp only[List.length_cons,List.length_nil,Nat.zero_add]
  go_wp2_with fail
  go_quiet (fail)
  go_wp2_with fail
  go_ret;exact⟨by rw[HF.out];rfl,by first|exact XD aa.out _|(simp only[World.drewN_drewN];exact XD aa.out _)⟩
 |
  i::k::x::q,ax,HR,ak,h8,af,ae =>
  obtain⟨g',o',rfl,aV,hi,a0⟩:=X5 af ae (k:=0) (by simp);obtain⟨g2,o2,hq,hg2,hk,a1⟩:=X5 af ae (k:=1) (by simp);cases hq;simp only[List.getElem_cons_zero,List.getElem_cons_succ,Nat.add_zero] at a0 a1 hi hk;obtain⟨A3,aR,hcut⟩:=TM ZA Tryz.underlying25 WO (some ⟨g',o',none⟩) (i::k::x::q).length aI 2 2 rfl (by simp);have aK:=hid (hcut _ _ _ ak.out);simp only[List.drop_succ_cons,List.drop_zero] at aK;have i3:(3:Int)<=((i::k::x::q).length:Int):=by simp;omega
  have ah:(i::k::x::q).length-2=(x::q).length:=by simp
  have aS:Hid ((x::q).length<(i::k::x::q).length):=by show _<_;simp
  rw[ah] at aR aK;have m0:(0:Int)<((i::k::x::q).length:Int):=by simp;omega
  have m2:0<(i::k::x::q).length:=by simp
  have m1:1<(i::k::x::q).length:=by simp
  have m3:(1:Int)<((i::k::x::q).length:Int):=by simp;omega
  clear hcut ah af ae;generalize (i::k::x::q).length=m at *;have HX:Hid (ZO (.mk tk tx tc ts) p=ZO t' (i::k::x::q)):=HR.out.symm;have aJ:=hid (show ZO t' (i::k::x::q)=_ by rw[ZO]);clear HR;by_cases hx:0<=i/\i.toNat<t'.kids.length
  ·obtain⟨hx1,az⟩:=hx;obtain⟨i',rfl⟩:∃i':Nat,i=i':=⟨i.toNat,by omega⟩;simp only[Int.toNat_natCast] at az;obtain⟨gk,ok,B1,b1,bs1,rfl,aU,t0,t1,t2,t3,_,_,hts,aP,aH,aD,aF⟩:=YW h6 h7 az;have j0:decide ((i':Int)<0)=false:=by simp
   have j1:¬(i':Int)<0:=by omega
   have j2:decide ((t'.kids.length:Int)<=i')=false:=by simp;omega
   have j3:(i':Int)<(t'.kids.length:Int):=by omega
   have aT:gk<W0.heap.size:=aU;have hl3:t'.kids[i'].kids.length<=9223372036854775807:=by unfold maxLen at aH;omega
   by_cases hy:0<=k/\k.toNat<t'.kids[i'].kids.length
   ·obtain⟨hy1,aA⟩:=hy;obtain⟨k',rfl⟩:∃k':Nat,k=k':=⟨k.toNat,by omega⟩;simp only[Int.toNat_natCast] at aA;obtain⟨gl,ol,B2,b2,aW,rfl,aG,s0,s1,s2,s3,_,_,aC,aO,aN,au,av⟩:=YW aD aF aA;have j4:decide ((k':Int)<0)=false:=by simp
    have j5:¬(k':Int)<0:=by omega
    have j6:decide ((t'.kids[i'].kids.length:Int)<=k')=false:=by simp;omega
    have j7:(k':Int)<(t'.kids[i'].kids.length:Int):=by omega
    have HF:Hid (ZO t'.kids[i'].kids[k'] (x::q)=ZO (.mk tk tx tc ts) p):=by
     show _=_;rw[HX.out,ZO,dif_pos ⟨by omega,by simpa using az⟩,dif_pos ⟨by omega,by simpa using aA⟩];rfl
    have aX:Hid (V6 W0 (Lt W0.heap.size) gl (ol+k'*4) t'.kids[i'].kids[k'] B2 b2 aW):=⟨⟨s0,s1,s2,s3⟩,aG,aC,aO,aN,au,av⟩;clear aD aF au av h6 h7 HX aJ aO aN aP aH
    go_wp2_with fail
    go_quiet (fail)
    go_wp2_with fail
    go_roundw
    case rel=>exact⟨by first|exact⟨_,rfl⟩|(simp only[World.drewN_drewN];exact⟨_,rfl⟩),x::q,_,_,_,_,_,_,rfl,aK.out,aX.out,HF.out⟩
    case measure=>exact aS.out
   have HF:Hid (ZO (.mk tk tx tc ts) p=false):=by
    show _=_;rw[HX.out,ZO,dif_pos ⟨by omega,by simpa using az⟩,dif_neg (by simpa using hy)]
   have i2:k<0\/(0<=k/\(t'.kids[i'].kids.length:Int)<=k):=by omega
   clear aD aF h6 h7 HX aJ aP aH hy;rcases i2 with i2|⟨i2,i3⟩
   ·have j4:decide (k<0)=true:=decide_eq_true i2
    go_wp2_with fail
    go_quiet (fail)
    go_wp2_with fail
    go_ret;exact⟨by rw[HF.out];rfl,by first|exact XD aa.out _|(simp only[World.drewN_drewN];exact XD aa.out _)⟩
   have j4:decide (k<0)=false:=by simp;omega
   have j5:decide ((t'.kids[i'].kids.length:Int)<=k)=true:=decide_eq_true i3
   go_wp2_with fail
   go_quiet (fail)
   go_wp2_with fail
   go_ret;exact⟨by rw[HF.out];rfl,by first|exact XD aa.out _|(simp only[World.drewN_drewN];exact XD aa.out _)⟩
  have HF:Hid (ZO (.mk tk tx tc ts) p=false):=by show _=_;rw[HX.out,ZO,dif_neg hx]
  have i2:i<0\/(0<=i/\(t'.kids.length:Int)<=i):=by omega
  clear h6 h7 HX aJ hx;rcases i2 with i2|⟨i2,i3⟩
  ·have j4:decide (i<0)=true:=decide_eq_true i2
   go_wp2_with fail
   go_quiet (fail)
   go_wp2_with fail
   go_ret;exact⟨by rw[HF.out];rfl,by first|exact XD aa.out _|(simp only[World.drewN_drewN];exact XD aa.out _)⟩
  have j4:decide (i<0)=false:=by simp;omega
  have j5:decide ((t'.kids.length:Int)<=i)=true:=decide_eq_true i3
  go_wp2_with fail
  go_quiet (fail)
  go_wp2_with fail
  go_ret;exact⟨by rw[HF.out];rfl,by first|exact XD aa.out _|(simp only[World.drewN_drewN];exact XD aa.out _)⟩
