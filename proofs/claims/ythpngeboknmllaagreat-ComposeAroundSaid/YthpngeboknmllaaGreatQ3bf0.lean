/- T -/
import Derived.Test.YthpngeboknmllaaGreatQa26f
import Derived.Test.YthpngeboknmllaaGreatQde71
import Derived.Test.YthpngeboknmllaaGreatQdf2c
import Derived.Lib.Strings
import Derived.Deep.DeepCutAuto
set_option linter.unusedVariables false
set_option linter.unusedSimpArgs false
set_option maxHeartbeats 4000000
set_option maxRecDepth 100000
namespace Go.Proofs.YthpngeboknmllaaGreat
open Go.RowKit
mutual
def Zd:Z9->Bool
 |.mk k s c ts=>YT k s&&Zw k c ts.length&&XX k ts
def XX (k:Int):List Z9->Bool
 |[]=>true
 |.mk k' s' c' ts'::ts=>!((k'==1)==(k==1))&&(YT k' s'&&Zw k' c' ts'.length&&XX k' ts')&&XX k ts
end
theorem Vu (k:Int) (t:Z9) (ts:List Z9):XX k (t::ts)=(!((t.kind==1)==(k==1))&&Zd t&&XX k ts):=by
 obtain⟨k',s',c',ts'⟩:=t;rw[XX,Zd];rfl
theorem zM3 (k:Int) {ts:List Z9} {i:Nat} (h:i<ts.length):XX k (ts.drop i)=(!((ts[i].kind==1)==(k==1))&&Zd ts[i]&&XX k (ts.drop (i+1))):=by
 rw[List.drop_eq_getElem_cons h,Vu]
theorem Tx {w w':World} {B:Nat} (h:Below B w.drew w'):Below B w w':=⟨h.os,h.tape,h.output,h.size,h.block⟩
theorem zEl {α:Type} {E:YW α} {w:World} {xs:List α} {v:Value} (h:Z8 E w (Lt w.heap.size) xs v):Z8 E w.drew (Lt w.drew.heap.size) xs v:=h.keep (fun _ _=>rfl) (fun _ h=>h)
theorem Vs (t:Z9):∀(w:World) (v:Value) (_:Z8 Z7 w (Lt w.heap.size) t.kids v) (_:t.text.size<=maxLen),
  Calls Tryz.prog 60 #[.agg #[.int .i64 t.kind,.string t.text,.int .i64 t.cols,v]] w fun e w'=>e=.returned (.bool (Zd t))/\Below w.heap.size w w':=by
 induction t using Z9.ind with
 |h t ih =>
 obtain⟨tk,tx,tc,ts⟩:=t;intro w v hv aM;simp only[Z9.kind,Z9.text,Z9.cols,Z9.kids] at *;obtain⟨A,cap,rs,rfl,aO,ay,aD,aF⟩:=hv;have aA:Hid (∀W,Calls Tryz.prog 100 #[.agg #[.int .i64 tk,.string tx,.int .i64 tc,.slice A ts.length cap]] W fun e w'=>e=.returned (.bool (YT tk tx))/\Below W.heap.size W w'):=fun W=>V8 tk tc tx A ts.length cap W aM
 have aI:Hid (∀W,Calls Tryz.prog 101 #[.agg #[.int .i64 tk,.string tx,.int .i64 tc,.slice A ts.length cap]] W fun e w'=>e=.returned (.bool (Zw tk tc ts.length))/\Below W.heap.size W w'):=fun W=>VA tk tc tx A ts.length cap W (by omega)
 unfold maxLen at ay;have aN:ts.length<=9223372036854775807:=by omega
 have H:Hid (Zl w (Lt w.heap.size) A rs/\ZK Z7 w (Lt w.heap.size) ts rs):=⟨aD,aF⟩;have HC:Hid (Zd (.mk tk tx tc ts)=(YT tk tx&&Zw tk tc ts.length&&XX tk ts)):=by show _=_;rw[Zd]
 generalize YT tk tx=b1 at *;generalize Zw tk tc ts.length=b2 at *;have af:Hid (Below w.heap.size w (w.alloc (Obj.cells #[.int .i64 tk,.string tx,.int .i64 tc,.slice A ts.length cap] 24))):=(QQ _ _).alloc (QT _) _;have KB:Hid (∀W,Below (w.alloc (Obj.cells #[.int .i64 tk,.string tx,.int .i64 tc,.slice A ts.length cap] 24)).heap.size (w.alloc (Obj.cells #[.int .i64 tk,.string tx,.int .i64 tc,.slice A ts.length cap] 24)) W ->
   (W.cell? ⟨w.heap.size,0,none⟩=some (.int .i64 tk)/\W.cell? ⟨w.heap.size,1,none⟩=some (.string tx)/\W.cell? ⟨w.heap.size,2,none⟩=some (.int .i64 tc)/\W.cell? ⟨w.heap.size,3,none⟩=some (.slice A ts.length cap))/\w.heap.size<W.heap.size):=by
  intro W hW;have h:=(bcell hW).1;exact⟨⟨(h _ 0 (by simp)).trans (by rw[World.cell?_alloc_new];rfl),(h _ 1 (by simp)).trans (by rw[World.cell?_alloc_new];rfl),(h _ 2 (by simp)).trans (by rw[World.cell?_alloc_new];rfl),(h _ 3 (by simp)).trans (by rw[World.cell?_alloc_new];rfl)⟩,by have:=hW.size;simp at this;omega⟩
 clear aD aF;cases b1 with
 |
  false =>
  go_enter Tryz.func60,Tryz.ntmps60
  go_wp2_with fail
  refine(aA.out _).mono ?_;rintro e w1 ⟨rfl,aa⟩;have ah:=hid (af.out.trans (aa.mono af.out.size));clear aa
  go_wp2_with fail
  go_ret;exact⟨by rw[HC.out];rfl,ah.out⟩
 |true =>
 cases b2 with
 |
  false =>
  go_enter Tryz.func60,Tryz.ntmps60
  go_wp2_with fail
  refine(aA.out _).mono ?_;rintro e w1 ⟨rfl,aa⟩;have ah:=hid (af.out.trans (aa.mono af.out.size));obtain⟨⟨m0,m1,m2,m3⟩,z1⟩:=KB.out w1 aa;clear aa
  go_wp2_with fail
  refine(aI.out _).mono ?_;rintro e w2 ⟨rfl,ak⟩;have aC:=hid (ah.out.trans (ak.mono ah.out.size));clear ak
  go_wp2_with fail
  go_ret;exact⟨by rw[HC.out];rfl,aC.out⟩
 |
  true =>
  have aB:Hid (Zd (.mk tk tx tc ts)=XX tk ts):=by show _=_;rw[HC.out];rfl
  go_enter Tryz.func60,Tryz.ntmps60
  go_wp2_with fail
  refine(aA.out _).mono ?_;rintro e w1 ⟨rfl,aa⟩;have ah:=hid aa;obtain⟨⟨m0,m1,m2,m3⟩,z1⟩:=KB.out w1 aa;clear aa
  go_wp2_with fail
  refine(aI.out _).mono ?_;rintro e w2 ⟨rfl,ak⟩;have aC:=hid (ah.out.trans (ak.mono ah.out.size));clear ak m0 m1 m2 m3 z1 HC
  go_wp2_with fail
  go_loopw [3] (fun i wr=>Below (w.alloc (Obj.cells #[.int .i64 tk,.string tx,.int .i64 tc,.slice A ts.length cap] 24)).heap.size (w.alloc (Obj.cells #[.int .i64 tk,.string tx,.int .i64 tc,.slice A ts.length cap] 24)) wr/\∃(k:Nat),k<=ts.length/\i=.int .i64 k/\XX tk (ts.drop k)=XX tk ts) (fun i _=>ts.length-(intOf i).toNat)
  case atStart=>exact⟨aC.out,0,QU _,rfl,rfl⟩
  obtain⟨av,k,hk,rfl,ae⟩:=hrel;have HR:=hid ae;have hb:Below w.heap.size w wr:=af.out.trans (av.mono af.out.size);have aK:=hid av;obtain⟨⟨m0,m1,m2,m3⟩,hz⟩:=KB.out wr av;have HB:=hid hb;clear ae av;by_cases az:k<ts.length
  ·obtain⟨g,o,A',cap',aL,rfl,hg,c0,c1,c2,c3,_,_,hts,aH,aG,ai,aj⟩:=Y5 (H.out.1.keep (Zy.of_below hb (QT _)) (Lt.mono hb.size)) (H.out.2.keep (Zy.of_below hb (QT _)) (Lt.mono hb.size)) az;have ax:ts[k]∈ts:=List.getElem_mem az;have HT:=hid (zM3 tk az);have au:g<wr.heap.size:=hg;have HV:Hid (Z8 Z7 wr (Lt wr.heap.size) ts[k].kids (.slice A' ts[k].kids.length cap')):=⟨A',cap',aL,rfl,aH,aG,ai,aj⟩;have i0:(k:Int)<(ts.length:Int):=by omega
   have KW:Hid (∀W,Below wr.heap.size wr W->Below (w.alloc (Obj.cells #[.int .i64 tk,.string tx,.int .i64 tc,.slice (some ⟨g,o,none⟩) ts.length cap] 24)).heap.size (w.alloc (Obj.cells #[.int .i64 tk,.string tx,.int .i64 tc,.slice (some ⟨g,o,none⟩) ts.length cap] 24)) W /\
     (W.cell? ⟨w.heap.size,0,none⟩=some (.int .i64 tk)/\W.cell? ⟨w.heap.size,3,none⟩=some (.slice (some ⟨g,o,none⟩) ts.length cap)) /\
     (W.cell? ⟨g,o+k*4,none⟩=some (.int .i64 ts[k].kind)/\W.cell? ⟨g,o+k*4+1,none⟩=some (.string ts[k].text)/\W.cell? ⟨g,o+k*4+2,none⟩=some (.int .i64 ts[k].cols)/\W.cell? ⟨g,o+k*4+3,none⟩=some (.slice A' ts[k].kids.length cap'))):=by
    intro W hW;have h:=(bcell hW).1;exact⟨aK.out.trans (hW.mono aK.out.size),⟨(h _ 0 hz).trans m0,(h _ 3 hz).trans m3⟩,(h _ _ au).trans c0,(h _ _ au).trans c1,(h _ _ au).trans c2,(h _ _ au).trans c3⟩
   have aJ:Hid (∀W v,Z8 Z7 W (Lt W.heap.size) ts[k].kids v->Calls Tryz.prog 60 #[.agg #[.int .i64 ts[k].kind,.string ts[k].text,.int .i64 ts[k].cols,v]] W fun e w'=>e=.returned (.bool (Zd ts[k]))/\Below W.heap.size W w'):=fun W v hv=>ih ts[k] ax W v hv hts
   clear ai aj hb aH aG hts ih;generalize ag:Zd ts[k]=b3 at *;clear ag;cases hq1:(ts[k].kind==1)<;>cases hq2:(tk==1)
   case false.false|true.true =>
    rw[hq1,hq2] at HT;have HF:Hid (Zd (.mk tk tx tc ts)=false):=by show _=_;rw[aB.out,<-HR.out,HT.out];rfl
    go_wp2_with fail
    go_quiet (fail)
    go_wp2_with fail
    go_ret;exact⟨by rw[HF.out];rfl,by first|exact HB.out|exact HB.out.trans (Below.mono ⟨rfl,rfl,rfl,QT _,fun _ _=>rfl⟩ HB.out.size)⟩
   all_goals
    rw[hq1,hq2] at HT;cases b3
    ·have HF:Hid (Zd (.mk tk tx tc ts)=false):=by show _=_;rw[aB.out,<-HR.out,HT.out];rfl
     go_wp2_with fail
     go_region_held3 (fun w'=>w'.cell? ⟨w.heap.size,0,none⟩=some (.int .i64 tk)/\w'.cell? ⟨w.heap.size,3,none⟩=some (.slice (some ⟨g,o,none⟩) ts.length cap)/\w'.cell? ⟨g,o+k*4,none⟩=some (.int .i64 ts[k].kind)/\w'.cell? ⟨g,o+k*4+1,none⟩=some (.string ts[k].text)/\w'.cell? ⟨g,o+k*4+2,none⟩=some (.int .i64 ts[k].cols)/\w'.cell? ⟨g,o+k*4+3,none⟩=some (.slice A' ts[k].kids.length cap')) (go_keep) (first
      |(go_at_call 60;refine(aJ.out _ _ (zEl HV.out)).mono ?_;rintro e w3 ⟨rfl,ag⟩;obtain⟨p0,⟨p1,p2⟩,p3,p4,p5,p6⟩:=KW.out w3 (Tx ag);have HP:=hid p0;clear ag p0))
     go_wp2_with fail
     go_ret;exact⟨by rw[HF.out];rfl,af.out.trans (HP.out.mono af.out.size)⟩
    have HF:Hid (XX tk (ts.drop (k+1))=XX tk ts):=by show _=_;rw[<-HR.out,HT.out];rfl
    go_wp2_with fail
    go_region_held3 (fun w'=>w'.cell? ⟨w.heap.size,0,none⟩=some (.int .i64 tk)/\w'.cell? ⟨w.heap.size,3,none⟩=some (.slice (some ⟨g,o,none⟩) ts.length cap)/\w'.cell? ⟨g,o+k*4,none⟩=some (.int .i64 ts[k].kind)/\w'.cell? ⟨g,o+k*4+1,none⟩=some (.string ts[k].text)/\w'.cell? ⟨g,o+k*4+2,none⟩=some (.int .i64 ts[k].cols)/\w'.cell? ⟨g,o+k*4+3,none⟩=some (.slice A' ts[k].kids.length cap')) (go_keep) (first
     |(go_at_call 60;refine(aJ.out _ _ (zEl HV.out)).mono ?_;rintro e w3 ⟨rfl,ag⟩;obtain⟨p0,⟨p1,p2⟩,p3,p4,p5,p6⟩:=KW.out w3 (Tx ag);have HP:=hid p0;clear ag p0))
    go_wp2_with fail
    go_roundw
    case rel=>exact⟨HP.out,k+1,by omega,by go_num,HF.out⟩
    case measure=>simp[intOf];omega
  have HF:Hid (Zd (.mk tk tx tc ts)=true):=by show _=_;rw[aB.out,<-HR.out,List.drop_of_length_le (by omega),XX]
  go_wp2_with fail
  go_ret;exact⟨by rw[HF.out];rfl,HB.out⟩
theorem zI4 {s t:ByteArray}:s.toList=t.toList↔s=t:=by
 constructor
 ·intro h;rw[Lib.toList_data,Lib.toList_data] at h;exact ByteArray.ext (Array.toList_inj.1 h)
 intro h;rw[h]
mutual
def YB:Z9->Z9->Bool
 |.mk k s c ts,.mk k' s' c' us=>k==k'&&(s.toList==s'.toList&&(c==c'&&(ts.length==us.length&&Zr ts us)))
def Zr:List Z9->List Z9->Bool
 |t::ts,u::us=>YB t u&&Zr ts us
 |_,_=>true
end
theorem zL0 {ts us:List Z9} {i:Nat} (h:i<ts.length) (h':i<us.length):Zr (ts.drop i) (us.drop i)=(YB ts[i] us[i]&&Zr (ts.drop (i+1)) (us.drop (i+1))):=by
 rw[List.drop_eq_getElem_cons h,List.drop_eq_getElem_cons h',Zr]
mutual
theorem R5:(t u:Z9)->(YB t u=true↔t=u)
 |
  .mk k s c ts,.mk k' s' c' us=>by
  unfold YB
  have h:=zKm ts us
  simp only[Bool.and_eq_true,beq_iff_eq,Z9.mk.injEq,h,zI4]
theorem zKm:(ts us:List Z9)->((ts.length=us.length/\Zr ts us=true)↔ts=us)
 |[],[]=>by simp[Zr]
 |[],u::us=>by simp
 |t::ts,[]=>by simp
 |
  t::ts,u::us=>by
  have h1:=R5 t u
  have h2:=zKm ts us
  simp only[Zr,List.length_cons,Bool.and_eq_true,List.cons.injEq,Nat.add_right_cancel_iff,<-h2,h1]
  constructor<;>(rintro ⟨a,b,c⟩;exact⟨b,a,c⟩)
end
theorem zPm (xs ys:List Z9) (w:World) (A A':Option Addr) (cap cap':Nat) (hv:Z8 Z7 w (Lt w.heap.size) xs (.slice A xs.length cap)) (hu:Z8 Z7 w (Lt w.heap.size) ys (.slice A' ys.length cap'))
  (hE:∀t∈xs,∀(u:Z9) (W:World) (v1 v2:Value),Z8 Z7 W (Lt W.heap.size) t.kids v1->Z8 Z7 W (Lt W.heap.size) u.kids v2 ->
   Calls Tryz.prog 14 #[.agg #[.int .i64 t.kind,.string t.text,.int .i64 t.cols,v1],.agg #[.int .i64 u.kind,.string u.text,.int .i64 u.cols,v2]] W fun e w'=>e=.returned (.bool (YB t u))/\Below W.heap.size W w') :
  Calls Tryz.prog 33 #[.slice A xs.length cap,.slice A' ys.length cap'] w fun e w'=>e=.returned (.bool (xs.length==ys.length&&Zr xs ys))/\Below w.heap.size w w':=by
 obtain⟨_,_,rs,hq,aK,az,ai,au⟩:=hv;cases hq;obtain⟨_,_,aB,hq,aF,aj,aa,ae⟩:=hu;cases hq;unfold maxLen at az aj;have H:Hid (Zl w (Lt w.heap.size) A rs/\ZK Z7 w (Lt w.heap.size) xs rs):=⟨ai,au⟩;have H':Hid (Zl w (Lt w.heap.size) A' aB/\ZK Z7 w (Lt w.heap.size) ys aB):=⟨aa,ae⟩;clear ai au aa ae;have l0:xs.length<=9223372036854775807:=by omega
 have l1:ys.length<=9223372036854775807:=by omega
 by_cases hl:xs.length=ys.length
 ·have b0:((xs.length:Int) != (ys.length:Int))=false:=by simp[hl]
  have b1:((xs.length:Int)==(ys.length:Int))=true:=by simp[hl]
  have b2:decide ((xs.length:Int)=(ys.length:Int))=true:=by simp[hl]
  have HF:Hid ((xs.length==ys.length&&Zr xs ys)=Zr xs ys):=by show _=_;simp[hl]
  rw[HF.out];clear HF;have HL:=hid hl;have aI:=hid hE;clear hE hl;go_enter Tryz.func33,Tryz.ntmps33
  go_wp2_with fail
  go_loopw [5] (fun i wr=>Below w.heap.size w wr/\∃(k:Nat),k<=xs.length/\i=.int .i64 k/\Zr (xs.drop k) (ys.drop k)=Zr xs ys) (fun i _=>xs.length-(intOf i).toNat)
  case atStart=>exact⟨QQ _ _,0,QU _,rfl,rfl⟩
  obtain⟨hb,k,hk,rfl,af⟩:=hrel;have HR:=hid af;have HB:=hid hb;clear af;by_cases aA:k<xs.length
  ·have ak:k<ys.length:=by have:=HL.out;omega
   obtain⟨g,o,B,bc,bs,rfl,hg,c0,c1,c2,c3,_,_,_,aH,aG,ai,au⟩:=Y5 (H.out.1.keep (Zy.of_below hb (QT _)) (Lt.mono hb.size)) (H.out.2.keep (Zy.of_below hb (QT _)) (Lt.mono hb.size)) aA;obtain⟨g',o',B',ah,aL,rfl,aJ,d0,d1,d2,d3,_,_,_,aD,aC,aa,ae⟩:=Y5 (H'.out.1.keep (Zy.of_below hb (QT _)) (Lt.mono hb.size)) (H'.out.2.keep (Zy.of_below hb (QT _)) (Lt.mono hb.size)) ak;have ax:g<wr.heap.size:=hg;have av:g'<wr.heap.size:=aJ;have ay:xs[k]∈xs:=List.getElem_mem aA;have HT:=hid (zL0 aA ak);have HV:Hid (Z8 Z7 wr (Lt wr.heap.size) xs[k].kids (.slice B xs[k].kids.length bc)):=⟨B,bc,bs,rfl,aH,aG,ai,au⟩;have aM:Hid (Z8 Z7 wr (Lt wr.heap.size) ys[k].kids (.slice B' ys[k].kids.length ah)):=⟨B',ah,aL,rfl,aD,aC,aa,ae⟩;have HC:Hid (Calls Tryz.prog 14 #[.agg #[.int .i64 xs[k].kind,.string xs[k].text,.int .i64 xs[k].cols,.slice B xs[k].kids.length bc],.agg #[.int .i64 ys[k].kind,.string ys[k].text,.int .i64 ys[k].cols,.slice B' ys[k].kids.length ah]] wr.drew fun e w'=>e=.returned (.bool (YB xs[k] ys[k]))/\Below wr.drew.heap.size wr.drew w') :=
    aI.out _ ay ys[k] _ _ _ (zEl HV.out) (zEl aM.out)
   have KW:Hid (∀W,Below wr.heap.size wr W->Below w.heap.size w W /\
     (W.cell? ⟨g,o+k*4,none⟩=some (.int .i64 xs[k].kind)/\W.cell? ⟨g,o+k*4+1,none⟩=some (.string xs[k].text)/\W.cell? ⟨g,o+k*4+2,none⟩=some (.int .i64 xs[k].cols)/\W.cell? ⟨g,o+k*4+3,none⟩=some (.slice B xs[k].kids.length bc)) /\
     (W.cell? ⟨g',o'+k*4,none⟩=some (.int .i64 ys[k].kind)/\W.cell? ⟨g',o'+k*4+1,none⟩=some (.string ys[k].text)/\W.cell? ⟨g',o'+k*4+2,none⟩=some (.int .i64 ys[k].cols)/\W.cell? ⟨g',o'+k*4+3,none⟩=some (.slice B' ys[k].kids.length ah))):=by
    intro W hW;have h:=(bcell hW).1;exact⟨HB.out.trans (hW.mono HB.out.size),⟨(h _ _ ax).trans c0,(h _ _ ax).trans c1,(h _ _ ax).trans c2,(h _ _ ax).trans c3⟩,(h _ _ av).trans d0,(h _ _ av).trans d1,(h _ _ av).trans d2,(h _ _ av).trans d3⟩
   have i0:(k:Int)<(xs.length:Int):=by omega
   clear ai au aa ae hb aH aG aD aC aI b0 b1 b2;generalize ag:YB xs[k] ys[k]=b3 at *;clear ag;cases b3
   ·have HF:Hid (Zr xs ys=false):=by show _=_;rw[<-HR.out,HT.out];rfl
    go_wp2_with fail
    go_region_held3 (fun w'=>w'.cell? ⟨g,o+k*4,none⟩=some (.int .i64 xs[k].kind)/\w'.cell? ⟨g,o+k*4+1,none⟩=some (.string xs[k].text)/\w'.cell? ⟨g,o+k*4+2,none⟩=some (.int .i64 xs[k].cols)/\w'.cell? ⟨g,o+k*4+3,none⟩=some (.slice B xs[k].kids.length bc)/\w'.cell? ⟨g',o'+k*4,none⟩=some (.int .i64 ys[k].kind)/\w'.cell? ⟨g',o'+k*4+1,none⟩=some (.string ys[k].text)/\w'.cell? ⟨g',o'+k*4+2,none⟩=some (.int .i64 ys[k].cols)/\w'.cell? ⟨g',o'+k*4+3,none⟩=some (.slice B' ys[k].kids.length ah)) (go_keep) (first
     |(go_at_call 14;refine HC.out.mono ?_;rintro e w3 ⟨rfl,ag⟩;obtain⟨p0,⟨p1,p2,p3,p4⟩,p5,p6,p7,p8⟩:=KW.out w3 (Tx ag);have HP:=hid p0;clear ag p0))
    go_wp2_with fail
    go_ret;exact⟨by rw[HF.out];rfl,HP.out⟩
   have HF:Hid (Zr (xs.drop (k+1)) (ys.drop (k+1))=Zr xs ys):=by show _=_;rw[<-HR.out,HT.out];rfl
   go_wp2_with fail
   go_region_held3 (fun w'=>w'.cell? ⟨g,o+k*4,none⟩=some (.int .i64 xs[k].kind)/\w'.cell? ⟨g,o+k*4+1,none⟩=some (.string xs[k].text)/\w'.cell? ⟨g,o+k*4+2,none⟩=some (.int .i64 xs[k].cols)/\w'.cell? ⟨g,o+k*4+3,none⟩=some (.slice B xs[k].kids.length bc)/\w'.cell? ⟨g',o'+k*4,none⟩=some (.int .i64 ys[k].kind)/\w'.cell? ⟨g',o'+k*4+1,none⟩=some (.string ys[k].text)/\w'.cell? ⟨g',o'+k*4+2,none⟩=some (.int .i64 ys[k].cols)/\w'.cell? ⟨g',o'+k*4+3,none⟩=some (.slice B' ys[k].kids.length ah)) (go_keep) (first
    |(go_at_call 14;refine HC.out.mono ?_;rintro e w3 ⟨rfl,ag⟩;obtain⟨p0,⟨p1,p2,p3,p4⟩,p5,p6,p7,p8⟩:=KW.out w3 (Tx ag);have HP:=hid p0;clear ag p0))
   go_wp2_with fail
   go_roundw
   case rel=>exact⟨HP.out,k+1,by omega,by go_num,HF.out⟩
   case measure=>simp[intOf];omega
  have HF:Hid (Zr xs ys=true):=by show _=_;rw[<-HR.out,List.drop_of_length_le (by omega),Zr];simp
  clear hb
  go_wp2_with fail
  go_ret;exact⟨by rw[HF.out];rfl,HB.out⟩
 have b0:((xs.length:Int) != (ys.length:Int))=true:=by simp;omega
 have b1:((xs.length:Int)==(ys.length:Int))=false:=by simp;omega
 have b2:decide ((xs.length:Int)=(ys.length:Int))=false:=by simp;omega
 have HF:Hid ((xs.length==ys.length&&Zr xs ys)=false):=by show _=_;simp[hl]
 clear hE;go_enter Tryz.func33,Tryz.ntmps33
 go_wp2_with fail
 go_ret;exact⟨by rw[HF.out];rfl,QQ _ _⟩
theorem zLz (t:Z9):∀(u:Z9) (w:World) (a b:Value) (_:Z8 Z7 w (Lt w.heap.size) t.kids a) (_:Z8 Z7 w (Lt w.heap.size) u.kids b),
  Calls Tryz.prog 14 #[.agg #[.int .i64 t.kind,.string t.text,.int .i64 t.cols,a],.agg #[.int .i64 u.kind,.string u.text,.int .i64 u.cols,b]] w fun e w'=>e=.returned (.bool (YB t u))/\Below w.heap.size w w':=by
 induction t using Z9.ind with
 |h t ih =>
 obtain⟨tk,tx,tc,ts⟩:=t;intro u w a b ha hb;obtain⟨uk,ux,uc,us⟩:=u;simp only[Z9.kind,Z9.text,Z9.cols,Z9.kids] at *;have HA:=hid ha;have HB:=hid hb;obtain⟨A,cap,_,rfl,_,_,_,_⟩:=ha;obtain⟨A',cap',_,rfl,_,_,_,_⟩:=hb;rename_i h1 h2 h3 h4 h5 h6 h7 h8;clear h1 h2 h3 h4 h5 h6 h7 h8;have HC:Hid (∀W,Below w.heap.size w W->Calls Tryz.prog 33 #[.slice A ts.length cap,.slice A' us.length cap'] W fun e w'=>e=.returned (.bool (ts.length==us.length&&Zr ts us))/\Below W.heap.size W w') :=
  fun W hW=>zPm ts us W A A' cap cap' (HA.out.below hW hW.size) (HB.out.below hW hW.size) ih
 have HE:Hid (YB (.mk tk tx tc ts) (.mk uk ux uc us)=(tk==uk&&(tx.toList==ux.toList&&(tc==uc&&(ts.length==us.length&&Zr ts us))))):=by show _=_;rw[YB]
 rw[HE.out];clear HE ih HA HB;have HW:Hid (Below w.heap.size w ((w.alloc (Obj.cells #[Value.int IntKind.i64 tk,Value.string tx,Value.int IntKind.i64 tc,.slice A ts.length cap] 24)).alloc
   (Obj.cells #[Value.int IntKind.i64 uk,Value.string ux,Value.int IntKind.i64 uc,.slice A' us.length cap'] 24))):=((QQ _ _).alloc (QT _) _).alloc (by simp) _
 generalize hq:(ts.length==us.length&&Zr ts us)=b at *;clear hq;generalize af:(tk==uk)=b1 at *;generalize hq2:(tx.toList==ux.toList)=b2 at *;generalize ae:(tc==uc)=b3 at *;have hd1:decide (tk=uk)=b1:=by rw[<-af];simp[Bool.beq_eq_decide_eq]
 have hd3:decide (tc=uc)=b3:=by rw[<-ae];simp[Bool.beq_eq_decide_eq]
 cases b1
 ·go_enter Tryz.func14,Tryz.ntmps14
  go_wp2_with fail
  go_ret;exact⟨by rfl,HW.out⟩
 cases b2
 ·go_enter Tryz.func14,Tryz.ntmps14
  go_wp2_with fail
  go_ret;exact⟨by rfl,HW.out⟩
 cases b3
 ·go_enter Tryz.func14,Tryz.ntmps14
  go_wp2_with fail
  go_ret;exact⟨by rfl,HW.out⟩
 go_enter Tryz.func14,Tryz.ntmps14
 go_wp2_with fail
 refine(HC.out _ HW.out).mono ?_;rintro e w3 ⟨rfl,aa⟩;have HP:=hid (HW.out.trans (aa.mono HW.out.size));clear aa HW
 go_wp2_with fail
 go_ret;exact⟨by rfl,HP.out⟩
theorem zNr (xs ys:List Z9) (w:World) (a b:Value) (ha:Z8 Z7 w (Lt w.heap.size) xs a) (hb:Z8 Z7 w (Lt w.heap.size) ys b) :
  Calls Tryz.prog 33 #[a,b] w fun e w'=>e=.returned (.bool (xs.length==ys.length&&Zr xs ys))/\Below w.heap.size w w':=by
 have ae:=ha;have aa:=hb;obtain⟨A,cap,_,rfl,_,_,_,_⟩:=ha;obtain⟨A',cap',_,rfl,_,_,_,_⟩:=hb;exact zPm xs ys w A A' cap cap' ae aa (fun t _ u W v1 v2 h1 h2=>zLz t u W v1 v2 h1 h2)
end Go.Proofs.YthpngeboknmllaaGreat
namespace Go.Proofs.YthpngeboknmllaaGreat
theorem Z9.ind' {P:Z9->Prop} (h:∀t:Z9,(∀k∈t.kids,∀u∈k.kids,P u)->P t):∀t,P t:=by
 intro t;have:∀(n:Nat) (t:Z9),ZW t<=n->P t:=by
  intro n;induction n with
  |zero =>
     intro t ht;have:0<ZW t:=by cases t;rw[ZW];omega
     omega
  |
   succ n ih =>
   intro t ht;have aa:∀(ts:List Z9),∀k∈ts,ZW k<=ZT ts:=by
    intro ts;induction ts with
    |nil=>simp
    |cons u us ih =>
      intro k hk;rw[ZT];rcases List.mem_cons.1 hk with rfl|hk
      ·omega
      have:=ih k hk;omega
   refine h t fun k hk u hu=>ih u ?_
   cases t with
   |
    mk a b c ts=>cases k with
    |mk a' b' c' us =>
    rw[ZW] at ht;have h1:=aa ts _ hk;rw[ZW] at h1;have h2:=aa us u hu;omega
 exact this _ t (QT _)
mutual
def Zh (path:List Int):Z9->List (List Int)
 |.mk _ _ _ ts=>Yl path 0 ts
def Yl (path:List Int) (i:Nat):List Z9->List (List Int)
 |[]=>[path++[(i:Int)]]
 |.mk _ _ _ us::ts=>(path++[(i:Int)])::(XL path i 0 us++Yl path (i+1) ts)
def XL (path:List Int) (i k:Nat):List Z9->List (List Int)
 |[]=>[]
 |u::us=>Zh (path++[(i:Int),(k:Int)]) u++XL path i (k+1) us
end
theorem zKs (path:List Int) (t:Z9):Zh path t=Yl path 0 t.kids:=by cases t;rw[Zh];rfl
theorem zFr (path:List Int) (i:Nat) (t:Z9) (ts:List Z9):Yl path i (t::ts)=(path++[(i:Int)])::(XL path i 0 t.kids++Yl path (i+1) ts):=by cases t;rw[Yl];rfl
def ZA:Z9->List Int->Bool
 |
  t,i::k::p =>
  if hi:0<=i/\i.toNat<t.kids.length then
   if hk:0<=k/\k.toNat<(t.kids[i.toNat]'hi.2).kids.length then ZA ((t.kids[i.toNat]'hi.2).kids[k.toNat]'hk.2) p else false
  else false
 |t,[i]=>decide (0<=i/\i<=t.kids.length)
 |_,[]=>false
theorem zF7 (path:List Int) (i:Nat) (q:List Int):∀(us:List Z9) (k:Nat),q∈XL path i k us↔∃(j:Nat) (h:j<us.length),q∈Zh (path++[(i:Int),((k+j:Nat):Int)]) us[j]:=by
 intro us;induction us with
 |nil=>intro k;simp[XL]
 |
  cons u us ih =>
  intro k;rw[XL,List.mem_append,ih];constructor
  ·rintro (h|⟨j,h,hq⟩)
   ·exact⟨0,by simp,by simpa using h⟩
   refine⟨j+1,by simpa using h,?_⟩;rw[show k+(j+1)=k+1+j by omega];simpa using hq
  rintro ⟨j,h,hq⟩;cases j with
  |zero=>left;simpa using hq
  |succ j=>right;refine⟨j,by simpa using h,?_⟩;rw[show k+1+j=k+(j+1) by omega];simpa using hq
theorem zLj (path:List Int) (q:List Int):∀(ts:List Z9) (i:Nat),q∈Yl path i ts↔(∃j,j<=ts.length/\q=path++[((i+j:Nat):Int)])\/∃(j:Nat) (h:j<ts.length),q∈XL path (i+j) 0 ts[j].kids:=by
 intro ts;induction ts with
 |
  nil =>
  intro i;simp only[Yl,List.mem_singleton,List.length_nil];constructor
  ·intro h;exact .inl ⟨0,QT _,h⟩
  rintro (⟨j,hj,h⟩|⟨j,hj,_⟩)
  ·obtain rfl:j=0:=by omega
   exact h
  omega
 |
  cons t ts ih =>
  intro i;rw[zFr,List.mem_cons,List.mem_append,ih];constructor
  ·rintro (h|h|⟨j,hj,h⟩|⟨j,hj,h⟩)
   ·exact .inl ⟨0,by simp,h⟩
   ·exact .inr ⟨0,by simp,by simpa using h⟩
   ·exact .inl ⟨j+1,by simpa using hj,by rw[h,show i+(j+1)=i+1+j by omega]⟩
   refine .inr ⟨j+1,by simpa using hj,?_⟩;rw[show i+(j+1)=i+1+j by omega];simpa using h
  rintro (⟨j,hj,h⟩|⟨j,hj,h⟩)
  ·cases j with
   |zero=>exact .inl h
   |succ j=>exact .inr (.inr (.inl ⟨j,by simpa using hj,by rw[h,show i+(j+1)=i+1+j by omega]⟩))
  cases j with
  |zero=>exact .inr (.inl (by simpa using h))
  |
   succ j =>
   refine .inr (.inr (.inr ⟨j,by simpa using hj,?_⟩));rw[show i+1+j=i+(j+1) by omega];simpa using h
theorem zHi (t:Z9):∀(path q:List Int),q∈Zh path t↔∃r,q=path++r/\ZA t r=true:=by
 induction t using Z9.ind' with
 |h t ih =>
 intro path q;rw[zKs,zLj];constructor
 ·rintro (⟨j,hj,rfl⟩|⟨j,hj,h⟩)
  ·exact⟨_,rfl,by simp only[ZA,decide_eq_true_eq];omega⟩
  rw[zF7] at h;obtain⟨k,hk,h⟩:=h;rw[ih t.kids[j] (List.getElem_mem hj) _ (List.getElem_mem hk)] at h;obtain⟨r,rfl,hr⟩:=h;refine⟨((0+j:Nat):Int)::((0+k:Nat):Int)::r,by simp,?_⟩;simp only[Nat.zero_add,ZA,Int.natCast_nonneg,Int.toNat_natCast,true_and,hj,hk,dif_pos];exact hr
 rintro ⟨r,rfl,hr⟩
 match r,hr with
 |
  [i],hr =>
  simp only[ZA,decide_eq_true_eq] at hr;exact .inl ⟨i.toNat,by omega,by rw[show ((0+i.toNat:Nat):Int)=i by omega]⟩
 |
  i::k::r,hr =>
  simp only[ZA] at hr;split at hr
  ·rename_i hi;split at hr
   ·rename_i hk;refine .inr ⟨i.toNat,hi.2,?_⟩;rw[zF7];refine⟨k.toNat,hk.2,?_⟩;rw[ih _ (List.getElem_mem hi.2) _ (List.getElem_mem hk.2)];exact⟨r,by rw[show ((0+i.toNat:Nat):Int)=i by omega,show ((0+k.toNat:Nat):Int)=k by omega];simp,hr⟩
   cases hr
  cases hr
 |[],hr=>simp[ZA] at hr
theorem zKj {t:Z9} {q:List Int}:q∈Zh [] t↔ZA t q=true:=by rw[zHi];simp
theorem Rc:∀(p a b:List Int),ZP (p++a) (p++b)=ZP a b
 |[],a,b=>rfl
 |x::p,a,b=>by rw[List.cons_append,List.cons_append,ZP,if_neg (by omega),if_neg (by omega)];exact Rc p a b
theorem zGf:∀a,ZP a a=0
 |[]=>rfl
 |x::a=>by rw[ZP,if_neg (by omega),if_neg (by omega)];exact zGf a
theorem zO3:∀a b,ZP a b=-1\/ZP a b=0\/ZP a b=1
 |[],[]=>by simp[ZP]
 |[],_::_=>by simp[ZP]
 |_::_,[]=>by simp[ZP]
 |
  x::a,y::b=>by
  rw[ZP];split
  ·simp
  split
  ·simp
  exact zO3 a b
theorem zL8:∀a b,ZP b a=- ZP a b
 |[],[]=>by simp[ZP]
 |[],_::_=>by simp[ZP]
 |_::_,[]=>by simp[ZP]
 |
  x::a,y::b=>by
  have ih:=zL8 a b;rw[ZP,ZP];by_cases h1:x<y
  ·rw[if_neg (by omega),if_pos h1,if_pos h1];rfl
  by_cases h2:y<x
  ·rw[if_pos h2,if_neg h1,if_pos h2]
  rw[if_neg h2,if_neg h1,if_neg h1,if_neg h2,ih]
def SV (a b:List Int):Prop:=ZP a b<0
theorem zJl (path:List Int):∀(ts:List Z9) (i:Nat) (q:List Int),q∈Yl path i ts->∃(x:Int) (r:List Int),q=path++x::r/\(i:Int)<=x:=by
 intro ts i q h;rw[zLj] at h;rcases h with ⟨j,_,rfl⟩|⟨j,hj,h⟩
 ·exact⟨_,[],rfl,by omega⟩
 rw[zF7] at h;obtain⟨k,hk,h⟩:=h;rw[zHi] at h;obtain⟨r,rfl,_⟩:=h;exact⟨((i+j:Nat):Int),_,by simp only[List.append_assoc,List.cons_append,List.nil_append];rfl,by omega⟩
theorem zGk (path:List Int) (i k:Nat) (us:List Z9) (q:List Int) (h:q∈XL path i k us):∃(y:Int) (r:List Int),q=path++(i:Int)::y::r/\(k:Int)<=y:=by
 rw[zF7] at h;obtain⟨j,hj,h⟩:=h;rw[zHi] at h;obtain⟨r,rfl,_⟩:=h;exact⟨((k+j:Nat):Int),r,by simp,by omega⟩
mutual
theorem zFv (path:List Int):(t:Z9)->(Zh path t).Pairwise SV
 |.mk _ _ _ ts=>by rw[Zh];exact zGb path 0 ts
theorem zGb (path:List Int) (i:Nat):(ts:List Z9)->(Yl path i ts).Pairwise SV
 |[]=>by rw[Yl];exact List.pairwise_singleton _ _
 |
  .mk _ _ _ us::ts=>by
  rw[Yl,List.pairwise_cons]
  refine⟨fun q hq=>?_,?_⟩
  ·rcases List.mem_append.1 hq with hq|hq
   ·obtain⟨y,r,rfl,_⟩:=zGk path i 0 us q hq
    unfold SV;rw[Rc,ZP,if_neg (by omega),if_neg (by omega),ZP];decide
   obtain⟨x,r,rfl,hx⟩:=zJl path ts (i+1) q hq
   unfold SV;rw[Rc,ZP,if_pos (by omega)];decide
  rw[List.pairwise_append]
  refine⟨zFz path i 0 us,zGb path (i+1) ts,fun a ha b hb=>?_⟩
  obtain⟨y,r,rfl,_⟩:=zGk path i 0 us a ha
  obtain⟨x,s,rfl,hx⟩:=zJl path ts (i+1) b hb
  unfold SV;rw[Rc,ZP,if_pos (by omega)];decide
theorem zFz (path:List Int) (i k:Nat):(us:List Z9)->(XL path i k us).Pairwise SV
 |[]=>by rw[XL];exact List.Pairwise.nil
 |
  u::us=>by
  rw[XL,List.pairwise_append]
  refine⟨zFv _ u,zFz path i (k+1) us,fun a ha b hb=>?_⟩
  rw[zHi] at ha
  obtain⟨r,rfl,_⟩:=ha
  obtain⟨y,s,rfl,hy⟩:=zGk path i (k+1) us b hb
  unfold SV;rw[List.append_assoc,Rc];show ZP ((i:Int)::(k:Int)::r) _<0
  rw[ZP,if_neg (by omega),if_neg (by omega),ZP,if_pos (by omega)];decide
end
mutual
def Ve:Z9->Nat
 |.mk _ _ _ ts=>TC ts
def TC:List Z9->Nat
 |[]=>1
 |.mk _ _ _ us::ts=>1+(TH us+TC ts)
def TH:List Z9->Nat
 |[]=>0
 |u::us=>Ve u+TH us
end
mutual
theorem zHl (path:List Int):(t:Z9)->(Zh path t).length=Ve t
 |.mk _ _ _ ts=>by rw[Zh,Ve];exact zJm path 0 ts
theorem zJm (path:List Int) (i:Nat):(ts:List Z9)->(Yl path i ts).length=TC ts
 |[]=>by rw[Yl,TC];rfl
 |.mk _ _ _ us::ts=>by rw[Yl,TC,List.length_cons,List.length_append,zI5 path i 0 us,zJm path (i+1) ts];omega
theorem zI5 (path:List Int) (i k:Nat):(us:List Z9)->(XL path i k us).length=TH us
 |[]=>by rw[XL,TH];rfl
 |u::us=>by rw[XL,TH,List.length_append,zHl _ u,zI5 path i (k+1) us]
end
mutual
theorem zKp:(t:Z9)->Ve t<=2*ZW t
 |.mk _ _ _ ts=>by rw[Ve,ZW];have:=zLr ts;omega
theorem zLr:(ts:List Z9)->TC ts<=1+2*ZT ts
 |[]=>by rw[TC];omega
 |.mk _ _ _ us::ts=>by rw[TC,ZT,ZW];have:=zK1 us;have:=zLr ts;omega
theorem zK1:(us:List Z9)->TH us<=2*ZT us
 |[]=>by rw[TH];omega
 |u::us=>by rw[TH,ZT];have:=zKp u;have:=zK1 us;omega
end
theorem zJt {t:Z9} {j:Nat} (h:j<t.kids.length):Y8 t.kids[j]+1<=Y8 t:=by
 obtain⟨_,_,_,ts⟩:=t;simp only[Z9.kids] at *;rw[Y8];have h1:=zFm (ts.take j) (ts.drop j);rw[List.take_append_drop,List.drop_eq_getElem_cons (show j<ts.length from h),YQ] at h1;omega
theorem zDv {t:Z9} {j:Nat} (h:j<t.kids.length):ZW t.kids[j]+1<=ZW t:=by
 obtain⟨_,_,_,ts⟩:=t;simp only[Z9.kids] at *;rw[ZW];have h1:=Ua (ts.take j) (ts.drop j);rw[List.take_append_drop,List.drop_eq_getElem_cons (show j<ts.length from h),ZT] at h1;omega
theorem Yz (t:Z9):t.kids.length+1<=ZW t:=by
 obtain⟨_,_,_,ts⟩:=t;simp only[Z9.kids];rw[ZW];have:ts.length<=ZT ts:=by
  induction ts with
  |nil=>simp
  |cons u us ih=>obtain⟨_,_,_,vs⟩:=u;rw[ZT,ZW,List.length_cons];omega
 omega
theorem zKd (t:Z9):∀(q:List Int),ZA t q=true->q.length<=Y8 t/\∀x∈q,0<=x/\x<=ZW t:=by
 induction t using Z9.ind' with
 |h t ih =>
 intro q hq;have hkc:=Yz t
 match q,hq with
 |
  [i],hq =>
  simp only[ZA,decide_eq_true_eq] at hq;refine⟨?_,by simp;omega⟩;obtain⟨_,_,_,ts⟩:=t;rw[Y8];simp
 |
  i::k::r,hq =>
  simp only[ZA] at hq;split at hq
  ·rename_i hi;split at hq
   ·rename_i hk;obtain⟨h1,h2⟩:=ih _ (List.getElem_mem hi.2) _ (List.getElem_mem hk.2) r hq;have d1:=zJt hi.2;have d2:=zJt hk.2;have c1:=zDv hi.2;have c2:=zDv hk.2;have k2:=Yz (t.kids[i.toNat]'hi.2);refine⟨by simp only[List.length_cons];omega,?_⟩;intro x hx;simp only[List.mem_cons] at hx;rcases hx with rfl|rfl|hx
    ·omega
    ·omega
    have:=h2 x hx;omega
   cases hq
  cases hq
 |[],hq=>simp[ZA] at hq
end Go.Proofs.YthpngeboknmllaaGreat
namespace Go.Proofs.YthpngeboknmllaaGreat
open Go.RowKit
def ZN (t:Z9):Bool:=(t.kind==1)&&Zd t&&decide ((ZW t:Int)<=1000)&&decide ((Y8 t:Int)<=24)
def Yu (W:World) (b:Nat) (k c:Int) (s:ByteArray) (v:Value):Prop :=
 W.cell? ⟨b,0,none⟩=some (.int .i64 k)/\W.cell? ⟨b,1,none⟩=some (.string s)/\W.cell? ⟨b,2,none⟩=some (.int .i64 c)/\W.cell? ⟨b,3,none⟩=some v
theorem Yu.new (w:World) (k c:Int) (s:ByteArray) (v:Value):Yu (w.alloc (Obj.cells #[.int .i64 k,.string s,.int .i64 c,v] 24)) w.heap.size k c s v :=
 ⟨by rw[World.cell?_alloc_new];rfl,by rw[World.cell?_alloc_new];rfl,by rw[World.cell?_alloc_new];rfl,by rw[World.cell?_alloc_new];rfl⟩
theorem Yu.below {W W':World} {B b:Nat} {k c:Int} {s:ByteArray} {v:Value} (h:Yu W b k c s v) (hb:Below B W W') (hB:b<B):Yu W' b k c s v :=
 ⟨((bcell hb).1 _ _ hB).trans h.1,((bcell hb).1 _ _ hB).trans h.2.1,((bcell hb).1 _ _ hB).trans h.2.2.1,((bcell hb).1 _ _ hB).trans h.2.2.2⟩
theorem Tm (t:Z9) (A:Option Addr) (cap:Nat) (w:World) (hv:Z8 Z7 w (Lt w.heap.size) t.kids (.slice A t.kids.length cap)) (aj:t.text.size<=maxLen) (ai:ZW t<=1000000000) :
  Calls Tryz.prog 29 #[.agg #[.int .i64 t.kind,.string t.text,.int .i64 t.cols,.slice A t.kids.length cap]] w fun e w'=>e=.returned (.bool (ZN t))/\Below w.heap.size w w':=by
 have C1:Hid (∀W,Below w.heap.size w W->Calls Tryz.prog 60 #[.agg #[.int .i64 t.kind,.string t.text,.int .i64 t.cols,.slice A t.kids.length cap]] W fun e w'=>e=.returned (.bool (Zd t))/\Below W.heap.size W w'):=fun W hW=>Vs t W _ (hv.below hW hW.size) aj
 have C2:Hid (∀W,Below w.heap.size w W->Calls Tryz.prog 61 #[.agg #[.int .i64 t.kind,.string t.text,.int .i64 t.cols,.slice A t.kids.length cap]] W fun e w'=>e=.returned (.int .i64 (ZW t))/\Below W.heap.size W w'):=fun W hW=>zQo t W _ (hv.below hW hW.size) ai
 have C3:Hid (∀W,Below w.heap.size w W->Calls Tryz.prog 62 #[.agg #[.int .i64 t.kind,.string t.text,.int .i64 t.cols,.slice A t.kids.length cap]] W fun e w'=>e=.returned (.int .i64 (Y8 t))/\Below W.heap.size W w'):=fun W hW=>zQn t W _ (hv.below hW hW.size) ai
 have HF:Hid (ZN t=((t.kind==1)&&Zd t&&decide ((ZW t:Int)<=1000)&&decide ((Y8 t:Int)<=24))):=rfl;generalize Zd t=b2 at *;generalize ZW t=n1 at *;generalize Y8 t=n2 at *;generalize av:ZN t=b at *;obtain⟨tk,tx,tc,ts⟩:=t;simp only[Z9.kind,Z9.text,Z9.cols,Z9.kids] at *;have ae:Hid (Below w.heap.size w (w.alloc (Obj.cells #[.int .i64 tk,.string tx,.int .i64 tc,.slice A ts.length cap] 24))):=(QQ _ _).alloc (QT _) _;have KB:Hid (∀W,Below (w.alloc (Obj.cells #[.int .i64 tk,.string tx,.int .i64 tc,.slice A ts.length cap] 24)).heap.size (w.alloc (Obj.cells #[.int .i64 tk,.string tx,.int .i64 tc,.slice A ts.length cap] 24)) W->Yu W w.heap.size tk tc tx (.slice A ts.length cap)) :=
  fun W hW=>(Yu.new w tk tc tx _).below hW (by simp)
 clear hv aj ai av;cases h1:(tk==1) with
 |
  false =>
  have HG:Hid (b=false):=by show _=_;rw[HF.out,h1];rfl
  go_enter Tryz.func29,Tryz.ntmps29
  go_wp2_with fail
  go_ret;exact⟨by rw[HG.out];rfl,ae.out⟩
 |true =>
 cases b2 with
 |
  false =>
  have HG:Hid (b=false):=by show _=_;rw[HF.out];simp
  go_enter Tryz.func29,Tryz.ntmps29
  go_wp2_with fail
  refine(C1.out _ ae.out).mono ?_;rintro e w1 ⟨rfl,aa⟩;have af:=hid (ae.out.trans (aa.mono ae.out.size));clear aa
  go_wp2_with fail
  go_ret;exact⟨by rw[HG.out];rfl,af.out⟩
 |true =>
 by_cases h3:(n1:Int)<=1000;rotate_left
 ·have HG:Hid (b=false):=by show _=_;rw[HF.out,decide_eq_false h3];simp
  have d3:decide ((n1:Int)<=1000)=false:=decide_eq_false h3;clear h3;go_enter Tryz.func29,Tryz.ntmps29
  go_wp2_with fail
  refine(C1.out _ ae.out).mono ?_;rintro e w1 ⟨rfl,aa⟩;have af:=hid (ae.out.trans (aa.mono ae.out.size));obtain⟨m0,m1,m2,m3⟩:=KB.out w1 aa;clear aa
  go_wp2_with fail
  refine(C2.out _ af.out).mono ?_;rintro e w2 ⟨rfl,ag⟩;have ah:=hid (af.out.trans (ag.mono af.out.size));clear ag
  go_wp2_with fail
  go_ret;exact⟨by rw[HG.out];rfl,ah.out⟩
 have HG:Hid (b=decide ((n2:Int)<=24)):=by show _=_;rw[HF.out,h1,decide_eq_true h3];rfl
 go_enter Tryz.func29,Tryz.ntmps29
 go_wp2_with fail
 refine(C1.out _ ae.out).mono ?_;rintro e w1 ⟨rfl,aa⟩;have af:=hid (ae.out.trans (aa.mono ae.out.size));have au:=hid aa;obtain⟨m0,m1,m2,m3⟩:=KB.out w1 aa;clear aa
 go_wp2_with fail
 refine(C2.out _ af.out).mono ?_;rintro e w2 ⟨rfl,ag⟩;have ah:=hid (af.out.trans (ag.mono af.out.size));obtain⟨p0,p1,p2,p3⟩:=KB.out w2 (au.out.trans (ag.mono au.out.size));clear ag
 go_wp2_with fail
 refine(C3.out _ ah.out).mono ?_;rintro e w3 ⟨rfl,ak⟩;have ax:=hid (ah.out.trans (ak.mono ah.out.size));clear ak
 go_wp2_with fail
 go_ret;exact⟨by rw[HG.out];rfl,ax.out⟩
def Z6 (ts:List Z9):Z9:=.mk 1 ⟨#[]⟩ 0 ts
structure Xw where
 op:ZB
 k:Nat
 index:Int
 inside:Bool
 slot:Int
 rest:List Int
def Bd (M x:Int):Prop:=-M<=x/\x<=M
structure Xw.Ok (p:Xw):Prop where
 at_:Bd 1099511627776 p.op.at_
 n:Bd 1099511627776 p.op.n
 slot_:Bd 1099511627776 p.op.slot
 k:p.k<=1000000
 index:Bd 1152921504606846976 p.index
 slot:Bd 1152921504606846976 p.slot
 rest:∀x∈p.rest,Bd 1152921504606846976 x
 len:p.rest.length<=100000
 ne:p.inside=true->0<p.rest.length
def YU (p:Xw) (l:List Int):List Int:=if p.inside then l++[p.slot]++p.rest else l
theorem zVm {x:Int} (h:Bd 1152921504606846976 x):Z4 x:=by unfold Bd at h;unfold Z4;omega
theorem RA {w w':World} {S:Nat->Prop} {a b c:List Int} {va vb vc:Value} (ha:Z0 w S a va) (hb:Z0 w S b vb) (hc:Z0 w S c vc) (e:TypeId) (he:w'=w.alloc (.cells #[va,vb,vc] e)) (hS:∀k,S k->k<w.heap.size) (g:Nat) (hg:g=w.heap.size) :
  Z8 (Xv ZF) w' (Lt w'.heap.size) [a,b,c] (.slice (some ⟨g,0,none⟩) 3 3):=by
 subst he hg;have hk:Zy S w (w.alloc (.cells #[va,vb,vc] e)):=fun p hp=>World.cell?_alloc_lt w _ p (hS _ hp)
 have hm:∀k,S k->Lt (w.alloc (.cells #[va,vb,vc] e)).heap.size k:=fun k h=>by have:=hS k h;unfold Lt;simp;omega
 refine⟨_,_,[va,vb,vc],rfl,QT _,by simp[maxLen],fun _=>⟨w.heap.size,0,rfl,by unfold Lt;simp,fun j u hu=>?_⟩,?_⟩
 ·rw[Nat.zero_add,World.cell?_alloc_new];simpa using hu
 exact⟨[va],_,rfl,⟨va,rfl,ha.keep hk hm⟩,[vb],_,rfl,⟨vb,rfl,hb.keep hk hm⟩,[vc],_,rfl,⟨vc,rfl,hc.keep hk hm⟩,rfl⟩
theorem VU {w w':World} {S:Nat->Prop} {a b:List Int} {va vb:Value} (ha:Z0 w S a va) (hb:Z0 w S b vb) (e:TypeId) (he:w'=w.alloc (.cells #[va,vb] e)) (hS:∀k,S k->k<w.heap.size) (g:Nat) (hg:g=w.heap.size) :
  Z8 (Xv ZF) w' (Lt w'.heap.size) [a,b] (.slice (some ⟨g,0,none⟩) 2 2):=by
 subst he hg;have hk:Zy S w (w.alloc (.cells #[va,vb] e)):=fun p hp=>World.cell?_alloc_lt w _ p (hS _ hp)
 have hm:∀k,S k->Lt (w.alloc (.cells #[va,vb] e)).heap.size k:=fun k h=>by have:=hS k h;unfold Lt;simp;omega
 refine⟨_,_,[va,vb],rfl,QT _,by simp[maxLen],fun _=>⟨w.heap.size,0,rfl,by unfold Lt;simp,fun j u hu=>?_⟩,?_⟩
 ·rw[Nat.zero_add,World.cell?_alloc_new];simpa using hu
 exact⟨[va],_,rfl,⟨va,rfl,ha.keep hk hm⟩,[vb],_,rfl,⟨vb,rfl,hb.keep hk hm⟩,rfl⟩
theorem VE (w:World) (o:Obj):∀k,Lt w.heap.size k->Lt (w.alloc o).heap.size k:=fun k h=>by unfold Lt at *;simp;omega
theorem Z8.alloc {α:Type} {E:YW α} {w:World} {xs:List α} {v:Value} (h:Z8 E w (Lt w.heap.size) xs v) (o:Obj):Z8 E (w.alloc o) (Lt (w.alloc o).heap.size) xs v :=
 h.keep (fun p hp=>World.cell?_alloc_lt w o p hp) (VE w o)
theorem ZO (w:World) (o:Obj):Below w.heap.size w (w.alloc o):=(QQ _ _).alloc (QT _) _
abbrev Xu (p:Xw) (vr vn vs:Value):Array Value :=
 #[.int .i64 p.op.kind,vr,.int .i64 p.op.at_,.int .i64 p.op.n,vn,.int .i64 p.op.slot,.string p.op.old,.string p.op.text,.int .i64 p.k,.int .i64 p.index,.bool p.inside,.int .i64 p.slot,vs]
theorem zU1 (p:Xw) (l:List Int) (Ar An As Al:Option Addr) (lr cr ln cn cs cl:Nat) (w:World) (hp:p.Ok) (hs:Z0 w (Lt w.heap.size) p.rest (.slice As p.rest.length cs))
  (hl:Z0 w (Lt w.heap.size) l (.slice Al l.length cl)) (hll:l.length<=1000) :
  Calls Tryz.prog 133 #[.agg (Xu p (.slice Ar lr cr) (.slice An ln cn) (.slice As p.rest.length cs)),.slice Al l.length cl] w (WZ w (YU p l)):=by
 obtain⟨hat,hn,af,hk,au,ak,ah,ag,hne⟩:=hp;obtain⟨⟨kind,row,at_,n,nodes,ae,old,text⟩,k,index,inside,slot,rest⟩:=p;simp only[Xu] at *;obtain⟨o1,ai⟩:∃o,o=Obj.cells #[.int .i64 kind,.slice Ar lr cr,.int .i64 at_,.int .i64 n,.slice An ln cn,.int .i64 ae,.string old,.string text,.int .i64 k,.int .i64 index,.bool inside,.int .i64 slot,.slice As rest.length cs] 127:=⟨_,rfl⟩;cases inside with
 |
  false =>
  have HL:=hid (hl.alloc o1);subst ai;clear hl;go_enter Tryz.func133,Tryz.ntmps133
  go_wp2
  go_ret;exact⟨_,rfl,HL.out,ZO _ _⟩
 |
  true =>
  have HL:=hid ((hl.alloc o1).alloc (.cells #[.int .i64 slot] 3));have HS:=hid ((hs.alloc o1).alloc (.cells #[.int .i64 slot] 3));have HM:=hid (Vz (w.alloc o1) [slot] (by simpa using zVm ak) (S:=Lt ((w.alloc o1).alloc (.cells #[.int .i64 slot] 3)).heap.size) (by unfold Lt;simp) #[.int .i64 slot] 1 rfl rfl (by simp[maxLen]) 3 (w.heap.size+1) (by simp));have HC:=hid (RA HL.out HM.out HS.out 25 rfl (fun _ h=>h) (w.heap.size+1+1) (by simp));have HF:Hid ([l,[slot],rest].flatten.length<=1000000):=by show _<=_;simp;omega
  have HB:Hid (Below w.heap.size w (((w.alloc o1).alloc (.cells #[.int .i64 slot] 3)).alloc (.cells #[.slice Al l.length cl,.slice (some ⟨w.heap.size+1,0,none⟩) 1 1,.slice As rest.length cs] 25))) :=
   (((ZO _ _).trans ((ZO _ _).mono (by simp))).trans ((ZO _ _).mono (by simp;omega)))
  subst ai;clear hl hs;go_enter Tryz.func133,Tryz.ntmps133
  go_wp2_with fail
  with_reducible refine(zGt _ _ _ HC.out HF.out).mono ?_
  rintro e w1 ⟨v1,rfl,aa,aj⟩;have HO:=hid aa;have av:=hid aj;clear aa aj
  go_wp2_with fail
  go_ret;exact⟨_,rfl,by have h:=HO.out.ints (S:=Lt w1.heap.size) (fun _ _ h=>h);simpa[YU] using h,HB.out.trans (av.out.mono HB.out.size)⟩
theorem Ya (p:Xw) (Ar An As:Option Addr) (lr cr ln cn cs:Nat) (w W0:World) (hp:p.Ok) (hs:Z0 w (Lt w.heap.size) p.rest (.slice As p.rest.length cs)) (ae:Below w.heap.size w W0)
  (xs:List Int) (af:∀x∈xs,Z4 x) (hl:xs.length<=1000) (n g:Nat) (hn:n=xs.length) (hg:g=W0.heap.size) (arr:Array Value) (aa:arr=(xs.map (Value.int .i64 ·)).toArray) :
  Calls Tryz.prog 133 #[.agg (Xu p (.slice Ar lr cr) (.slice An ln cn) (.slice As p.rest.length cs)),.slice (some ⟨g,0,none⟩) n n] (W0.alloc (.cells arr 3)) (WZ w (YU p xs)):=by
 subst hn;have h1:Below w.heap.size w (W0.alloc (.cells arr 3)):=ae.trans ((ZO _ _).mono ae.size);refine(zU1 p xs Ar An As (some ⟨g,0,none⟩) lr cr ln cn cs xs.length _ hp (hs.below h1 h1.size) (Vz W0 xs af (by unfold Lt;simp) arr _ aa rfl (by unfold maxLen;omega) _ g hg) hl).mono ?_;rintro e w' ⟨v,he,hv,hb⟩;exact⟨v,he,hv,h1.trans (hb.mono h1.size)⟩
theorem YX {B:Nat} {w w':World} (h:Below B w w') (n:Nat):Below B w (w'.drewN n):=h.trans (Below.mono ⟨rfl,rfl,rfl,QT _,fun _ _=>rfl⟩ (QT _))
def WW (p:Xw) (after:Bool):List Int :=
 if p.index<p.op.at_\/p.index=p.op.at_/\p.inside=false/\after=false then YU p [p.index] else YU p [p.index+p.k]
def Xl (p:Xw):List Int×Bool :=
 if p.index<p.op.at_\/p.index=p.op.at_/\p.inside=false then (YU p [p.index],false)
 else if p.index<p.op.at_+p.k then ([p.op.at_],true) else (YU p [p.index-p.k],false)
def XT (p:Xw) (after:Bool):List Int :=
 if p.inside=false/\p.index=p.op.at_/\p.op.n=0/\after=true then [p.op.at_+1]
 else if p.index<p.op.at_\/p.index=p.op.at_/\p.inside=false then YU p [p.index]
 else if p.index<p.op.at_+p.op.n then YU p [p.op.at_,p.op.slot,p.index-p.op.at_] else YU p [p.index-p.op.n+1]
def Xm (p:Xw):List Int×Bool :=
 if p.index<p.op.at_\/p.index=p.op.at_/\p.inside=false then (YU p [p.index],false)
 else if p.op.at_<p.index then (YU p [p.index-1+p.op.n],false)
 else if p.slot<p.op.slot then ([p.op.at_],true)
 else if p.op.slot<p.slot then ([p.op.at_+p.op.n],true)
 else ((p.op.at_+p.rest.headD 0)::p.rest.tail,false)
def Q4 (w:World) (r:List Int×Bool) (e:Ending) (w':World):Prop:=∃v,e=.returned (.tuple #[v,.bool r.2])/\Z0 w' (Lt w'.heap.size) r.1 v/\Below w.heap.size w w'
theorem zQ2 {x:Int} (h1:-2305843009213693952<=x) (h2:x<=2305843009213693952):Z4 x:=by unfold Z4;omega
theorem m1 (x:Int) (h:-2305843009213693952<=x/\x<=2305843009213693952:=by omega):∀y∈[x],Z4 y:=fun y hy=>by rw[List.mem_singleton.1 hy];exact zQ2 h.1 h.2
theorem m3 (x y z:Int) (h1:-2305843009213693952<=x/\x<=2305843009213693952:=by omega) (h2:-2305843009213693952<=y/\y<=2305843009213693952:=by omega) (h3:-2305843009213693952<=z/\z<=2305843009213693952:=by omega):∀u∈[x,y,z],Z4 u:=by
 intro u hu;simp only[List.mem_cons,List.not_mem_nil,or_false] at hu;rcases hu with rfl|rfl|rfl<;>exact zQ2 (by omega) (by omega)
theorem Yg {w W0:World} (ae:Below w.heap.size w W0) (xs:List Int) (af:∀x∈xs,Z4 x) (hl:xs.length<=1000) (n g:Nat) (hn:n=xs.length) (hg:g=W0.heap.size) (arr:Array Value) (aa:arr=(xs.map (Value.int .i64 ·)).toArray) :
  Z0 (W0.alloc (.cells arr 3)) (Lt (W0.alloc (.cells arr 3)).heap.size) xs (.slice (some ⟨g,0,none⟩) n n)/\Below w.heap.size w (W0.alloc (.cells arr 3)) :=
 ⟨Vz W0 xs af (by unfold Lt;simp) arr n aa hn (by unfold maxLen;omega) _ g hg,ae.trans ((ZO _ _).mono ae.size)⟩
theorem TD:(Tryz.prog.info? 24).map (fun i=>(i.zero,i.size,i.bytes))=some (some (.agg #[.int .i64 0,.string ⟨#[]⟩,.int .i64 0,.slice none 0 0]),4,56):=by kernel_rfl
def ZH (w:World) (b:Nat) (S:Nat->Prop) (ts:List Z9) (v:Value):Prop:=∃cs,w.ownsRow b 24 4 v ts.length cs/\ZK Z7 w S ts cs
theorem ZH.rows {w:World} {b:Nat} {S:Nat->Prop} {ts:List Z9} {v:Value} (h:ZH w b S ts v) (hB:∀k,S k->k<w.heap.size):Z8 Z7 w (Lt w.heap.size) ts v:=by
 obtain⟨cs,h1,h2⟩:=h;exact Z8.of_own (E:=Z7) h1 (fun k hk=>(h1.lt k hk).2) (h2.keep (WI _ _) hB)
theorem ZH.empty (w:World) (S:Nat->Prop):ZH (w.alloc (.cells #[] 24)) w.heap.size S [] (.slice (some ⟨w.heap.size,0,none⟩) 0 0) :=
 ⟨[],World.ownsRow_made (base:=w.heap.size) (e:=24) (size:=4) w #[] 0 (QT _) (QU _) rfl,rfl⟩
theorem ZH.below {w w':World} {b:Nat} {S:Nat->Prop} {ts:List Z9} {v:Value} (h:ZH w b S ts v) (hB:∀k,S k->k<w.heap.size) (hb:Below w.heap.size w w'):ZH w' b S ts v:=by
 obtain⟨cs,h1,h2⟩:=h;exact⟨cs,Si _ h1 hb,h2.keep (fun p hp=>hb.cell (hB _ hp)) (fun _ h=>h)⟩
theorem ZH.form {w:World} {b:Nat} {S:Nat->Prop} {ts:List Z9} {v:Value} (h:ZH w b S ts v):∃A c,v=.slice A ts.length c:=by
 obtain⟨cs,⟨_,h1⟩,_⟩:=h;rcases h1 with ⟨rfl,h0⟩|⟨g,cap,cur,rfl,_⟩
 ·exact⟨none,0,by rw[h0]⟩
 exact⟨_,_,rfl⟩
theorem ZH.some_ {w:World} {b:Nat} {S:Nat->Prop} {ts:List Z9} {v:Value} (h:ZH w b S ts v) (h0:0<ts.length):∃g c,v=.slice (some ⟨g,0,none⟩) ts.length c/\b<=g/\g<w.heap.size/\∀j,j<ts.length*4->(∃u,w.cell? ⟨g,j,none⟩=some u)/\w.frozen? ⟨g,j,none⟩=false:=by
 obtain⟨cs,⟨hl,h1⟩,_⟩:=h;rcases h1 with ⟨rfl,h1⟩|⟨g,cap,aa,rfl,hg,hh,hn,hm,hc,hx⟩
 ·omega
 refine⟨g,cap,rfl,hg,(Array.getElem?_eq_some_iff.1 hh).1,fun j hj=>⟨⟨aa[j]'(by rw[hc];have:ts.length*4<=cap*4:=Nat.mul_le_mul_right _ hn;omega),?_⟩,?_⟩⟩
 ·rw[cell_of_row w g j aa _ (0,0) hh];exact Array.getElem?_eq_getElem _
 simp[World.frozen?,hh]
section
variable {w:World} {b:Nat} {S:Nat->Prop} {xss yss:List Z9} {v:Value}
theorem zJf {w':World} {v':Value} {cs rs:List Value} (ae:∀k,S k->k<b) (h2:ZK Z7 w S xss cs) (aa:ZK Z7 w S yss rs)
  (h3:w'.ownsRow b 24 4 v' (xss.length+yss.length) (cs++rs)) (hb:Below b w w'):ZH w' b S (xss++yss) v' :=
 ⟨cs++rs,by rw[List.length_append];exact h3,(h2.append aa).keep (fun p hp=>hb.cell (ae _ hp)) (fun _ h=>h)⟩
theorem Wx {ops:Array Oper} {rest:List Oper} {o:Oper} {a:Act} {Q:Exit->Act->World->Prop} (ay:o.guard=none) (s x:Operand)
  (ho:o.op=.call { callee:=.builtin .append,args:=#[s,x],argTypes:=#[22,22] })
  (b:Nat) (S:Nat->Prop) (az:∀k,S k->k<b) (v:Value) (xss yss:List Z9) (hs:a.eval s=v) (aa:ZH w b S xss v) (A:Option Addr) (m c:Nat) (hx:a.eval x=.slice A m c) (hr:Z8 Z7 w S yss (.slice A m c))
  (af:xss.length+yss.length<=1000000000) (hb:b<=w.heap.size)
  (h:∀v' w',ZH w' b S (xss++yss) v'->Below b w w'->wpList Tryz.prog ops Q rest (a.put o.dst v') w'):wpList Tryz.prog ops Q (o::rest) a w:=by
 obtain⟨i0,ax,ak,aj,ai⟩:=info_parts TD;obtain⟨A',cap',rs,e,h1,h2,au,ae⟩:=hr;injection e with e1 e2 e3
 subst e1 e2 e3;obtain⟨cs,ag,av⟩:=aa;have hl:=ae.len;refine UG w ay s x 22 ho b 24 i0 _ 4 56 Tryz.underlying22 ax ak aj ai rfl (by omega) v _ _ hs ag _ A _ c rs hx hl au ae.one (by simp only[maxLen];omega) (by omega) hb ?_;intro v' w' h3 h4 h5;have ah:=WF _ ag h4 hb;exact h v' w' (zJf az av ae h3 ah) ah
theorem zPh {ops:Array Oper} {o:Oper} {a:Act} {K:Act->World->Prop} {Q:Exit->Act->World->Prop} {E:Prop} (ay:o.guard=none) (s x:Operand)
  (ho:o.op=.call { callee:=.builtin .append,args:=#[s,x],argTypes:=#[22,22] })
  (b:Nat) (S:Nat->Prop) (az:∀k,S k->k<b) (v:Value) (xss yss:List Z9) (hs:a.eval s=v) (aa:ZH w b S xss v) (A:Option Addr) (m c:Nat) (hx:a.eval x=.slice A m c) (hr:Z8 Z7 w S yss (.slice A m c))
  (af:xss.length+yss.length<=1000000000) (hb:b<=w.heap.size)
  (h:∀v' w',ZH w' b S (xss++yss) v'->Below b w w'->K (a.put o.dst v') w') :
  if Region.wanted o (yielded ops a.tmps)=true then Oper.wp Tryz.prog o a w K Q else E:=by
 obtain⟨i0,ax,ak,aj,ai⟩:=info_parts TD;obtain⟨A',cap',rs,e,h1,h2,au,ae⟩:=hr;injection e with e1 e2 e3
 subst e1 e2 e3;obtain⟨cs,ag,av⟩:=aa;have hl:=ae.len;refine Tj w ay s x 22 ho b 24 i0 _ 4 56 Tryz.underlying22 ax ak aj ai rfl (by omega) v _ _ hs ag _ A _ c rs hx hl au ae.one (by simp only[maxLen];omega) (by omega) hb ?_;intro v' w' h3 h4 h5;have ah:=WF _ ag h4 hb;exact h v' w' (zJf az av ae h3 ah) ah
end
theorem Xz {w:World} {b o:Nat} {x0 x1 x2 x3:Value} (d0:w.cell? ⟨b,o,none⟩=some x0) (d1:w.cell? ⟨b,o+1,none⟩=some x1) (d2:w.cell? ⟨b,o+2,none⟩=some x2) (d3:w.cell? ⟨b,o+3,none⟩=some x3) (y0 y1 y2 y3:Value) {W:World}
  (hW:W=(((w.setCell ⟨b,o,none⟩ y0).setCell ⟨b,o+1,none⟩ y1).setCell ⟨b,o+2,none⟩ y2).setCell ⟨b,o+3,none⟩ y3) :
  (W.cell? ⟨b,o,none⟩=some y0/\W.cell? ⟨b,o+1,none⟩=some y1/\W.cell? ⟨b,o+2,none⟩=some y2/\W.cell? ⟨b,o+3,none⟩=some y3)/\W.heap.size=w.heap.size/\(∀B a,B<=b->Below B a w->Below B a W) /\
  (∀p:Addr,p.block≠b->W.cell? p=w.cell? p)/\(∀j,j<o\/o+4<=j->W.cell? ⟨b,j,none⟩=w.cell? ⟨b,j,none⟩)/\(∀p:Addr,W.frozen? p=w.frozen? p):=by
 have ne:∀(i j:Nat),i≠j->(⟨b,i,none⟩:Addr)≠⟨b,j,none⟩:=fun i j h e=>h (by injection e)
 have f:∀(p:Addr) (j:Nat),p.block≠b->(⟨b,j,none⟩:Addr)≠p:=fun p j h e=>h (by rw[<-e])
 subst hW;refine⟨⟨?_,?_,?_,?_⟩,by simp[World.setCell],fun B a hB h=>(((h.setCell hB _).setCell hB _).setCell hB _).setCell hB _,fun p hp=>?_,fun j hj=>?_,fun p=>?_⟩
 ·rw[World.cell?_setCell_other (h:=ne _ _ (by omega)),World.cell?_setCell_other (h:=ne _ _ (by omega)),World.cell?_setCell_other (h:=ne _ _ (by omega)),World.cell?_setCell_same (h:=d0)]
 ·rw[World.cell?_setCell_other (h:=ne _ _ (by omega)),World.cell?_setCell_other (h:=ne _ _ (by omega))];exact World.cell?_setCell_same _ _ _ (by rw[World.cell?_setCell_other (h:=ne _ _ (by omega))];exact d1)
 ·rw[World.cell?_setCell_other (h:=ne _ _ (by omega))];exact World.cell?_setCell_same _ _ _ (by rw[World.cell?_setCell_other (h:=ne _ _ (by omega)),World.cell?_setCell_other (h:=ne _ _ (by omega))];exact d2)
 ·exact World.cell?_setCell_same _ _ _ (by rw[World.cell?_setCell_other (h:=ne _ _ (by omega)),World.cell?_setCell_other (h:=ne _ _ (by omega)),World.cell?_setCell_other (h:=ne _ _ (by omega))];exact d3)
 ·rw[World.cell?_setCell_other (h:=f p _ hp),World.cell?_setCell_other (h:=f p _ hp),World.cell?_setCell_other (h:=f p _ hp),World.cell?_setCell_other (h:=f p _ hp)]
 ·rw[World.cell?_setCell_other (h:=ne _ _ (by omega)),World.cell?_setCell_other (h:=ne _ _ (by omega)),World.cell?_setCell_other (h:=ne _ _ (by omega)),World.cell?_setCell_other (h:=ne _ _ (by omega))]
 rw[World.frozen?_setCell,World.frozen?_setCell,World.frozen?_setCell,World.frozen?_setCell]
theorem ZH.put_ {w Y:World} {b g n c i:Nat} {S:Nat->Prop} {ts:List Z9} {k:Z9} {u:Value} (h:ZH w b S ts (.slice (some ⟨g,0,none⟩) n c)) (hi:i<ts.length) (hk:Zt k) (aj:Z8 Z7 Y S k.kids u) (hY:Zy S w Y)
  (d0:Y.cell? ⟨g,i*4,none⟩=some (.int .i64 k.kind)) (d1:Y.cell? ⟨g,i*4+1,none⟩=some (.string k.text)) (d2:Y.cell? ⟨g,i*4+2,none⟩=some (.int .i64 k.cols)) (d3:Y.cell? ⟨g,i*4+3,none⟩=some u)
  (ho:∀j,j<i*4\/i*4+4<=j->Y.cell? ⟨g,j,none⟩=w.cell? ⟨g,j,none⟩):Z8 Z7 Y (fun q=>S q\/q=g) (ts.set i k) (.slice (some ⟨g,0,none⟩) n c):=by
 obtain⟨cs,h1,h2⟩:=h;have af:=h2.len;have h3:Z8 Z7 w (fun q=>S q\/q=g) ts (.slice (some ⟨g,0,none⟩) n c):=Z8.of_own (E:=Z7) h1 (fun q hq=>by simp[Value.ownBlock] at hq;exact .inr hq.symm) (h2.keep (WI _ _) (fun q hq=>.inl hq));obtain⟨A',c',cs',e,h4,h5,h6,h7⟩:=h3;injection e with e1 e2 e3
 subst e1 e2 e3;have ah:ZK Z7 Y (fun q=>S q\/q=g) ts cs:=h2.keep hY (fun q hq=>.inl hq);have hr:∀j x,cs[j]?=some x->w.cell? ⟨g,j,none⟩=some x:=fun j x hx=>by
  rcases h1.2 with ⟨e,_⟩|⟨g',cap,ak,e,hg,hh,p1,p2,p3,p4⟩
  ·cases e
  injection e with e1 _ _
  injection e1 with e1
  injection e1 with e1 _ _
  subst e1;rw[cell_of_row w g j ak _ (0,0) hh];rw[<-p4,List.getElem?_take] at hx;split at hx
  ·simpa using hx
  cases hx
 have hE:Z7.size=4:=rfl;rw[hE] at af;have ae:ZK Z7 Y (fun q=>S q\/q=g) (ts.take i++k::ts.drop (i+1)) (cs.take (i*4)++([.int .i64 k.kind,.string k.text,.int .i64 k.cols,u]++cs.drop ((i+1)*4))):=by
  refine(ah.take i).append ⟨_,_,rfl,YI.2 ⟨u,rfl,hk.1,hk.2.1,hk.2.2,aj.keep (WI _ _) (fun q hq=>.inl hq)⟩,ah.drop (i+1)⟩
 have aa:ts.set i k=ts.take i++k::ts.drop (i+1):=List.set_eq_take_append_cons_drop.trans (if_pos hi);rw[aa];refine⟨some ⟨g,0,none⟩,c,_,by rw[<-aa,List.length_set],by rw[<-aa,List.length_set];exact h4,h5,fun _=>⟨g,0,rfl,.inr rfl,fun j x hx=>?_⟩,ae⟩;rw[Nat.zero_add];have ai:(cs.take (i*4)).length=i*4:=by rw[List.length_take];omega
 rcases Nat.lt_or_ge j (i*4) with hj|hj
 ·rw[List.getElem?_append_left (by omega),List.getElem?_take,if_pos hj] at hx;rw[ho j (.inl hj)];exact hr j x hx
 rw[List.getElem?_append_right (by omega),ai] at hx;rcases Nat.lt_or_ge j (i*4+4) with ag|ag
 ·rw[List.getElem?_append_left (by simp;omega)] at hx;obtain⟨q,rfl⟩:∃q,j=i*4+q:=⟨j-i*4,by omega⟩;rw[Nat.add_sub_cancel_left] at hx
  match q,hx,ag with
  |0,hx,_=>cases hx;exact d0
  |1,hx,_=>cases hx;exact d1
  |2,hx,_=>cases hx;exact d2
  |3,hx,_=>cases hx;exact d3
 rw[List.getElem?_append_right (by simp;omega)] at hx;rw[ho j (.inr ag)];refine hr j x ?_;rw[List.getElem?_drop] at hx;rw[<-hx];congr 1;simp;omega
theorem ZX (w:World) (o:Obj):Below w.heap.size w (w.alloc o):=(QQ _ _).alloc (QT _) _
theorem Zq {W X:World} (h:Below W.heap.size W X) (o:Obj):Below W.heap.size W (X.alloc o):=h.alloc h.size o
theorem Zx {W X Y:World} (h:Below W.heap.size W X) (hb:Below X.heap.size X Y):Below W.heap.size W Y:=h.trans (hb.mono h.size)
theorem ZU (W:World) (arr:Array Value) (T:TypeId) (b o:Nat) (hb:b=W.heap.size):(W.alloc (.cells arr T)).cell? ⟨b,o,none⟩=arr[o]?:=by subst hb;exact World.cell?_alloc_new _ _ _ _
theorem XI (W:World) (arr:Array Value) (T:TypeId) (b o:Nat) (hb:b=W.heap.size):(W.alloc (.cells arr T)).frozen? ⟨b,o,none⟩=false:=by subst hb;exact World.frozen?_alloc_new _ _ _ _
theorem Ro (W:World) (B:Obj) (b o:Nat) (x:Option Value) (hb:b<W.heap.size) (h:W.cell? ⟨b,o,none⟩=x):(W.alloc B).cell? ⟨b,o,none⟩=x:=((ZX W B).cell (p:=⟨b,o,none⟩) hb).trans h
theorem oldF (W:World) (B:Obj) (b o:Nat) (hb:b<W.heap.size) (h:W.frozen? ⟨b,o,none⟩=false):(W.alloc B).frozen? ⟨b,o,none⟩=false:=((ZX W B).frozen (p:=⟨b,o,none⟩) hb).trans h
theorem Y2 {w:World} {a:Addr} {v:Value} (h:w.cell? a=some v):a.block<w.heap.size:=by
 rcases Nat.lt_or_ge a.block w.heap.size with h1|h1
 ·exact h1
 simp[World.cell?,Array.getElem?_eq_none h1] at h
def XO (S:Nat->Prop) (w:World) (t:Z9) (e:Ending) (w':World):Prop :=
 ∃v,e=.returned (.agg #[.int .i64 t.kind,.string t.text,.int .i64 t.cols,v])/\Z8 Z7 w' (fun q=>S q\/w.heap.size<=q/\q<w'.heap.size) t.kids v/\Below w.heap.size w w'
def Y0 (t:Z9) (i:Nat) (k:Z9):Z9:=.mk t.kind t.text t.cols (t.kids.set i k)
def ZL (W:World) (b:Nat) (k:Int) (s:ByteArray) (c:Int) (v:Value):Prop :=
 W.cell? ⟨b,0,none⟩=some (.int .i64 k)/\W.cell? ⟨b,1,none⟩=some (.string s)/\W.cell? ⟨b,2,none⟩=some (.int .i64 c)/\W.cell? ⟨b,3,none⟩=some v
theorem ZL.keep {W W':World} {b:Nat} {k:Int} {s:ByteArray} {c:Int} {v:Value} (h:ZL W b k s c v) (hk:∀o,W'.cell? ⟨b,o,none⟩=W.cell? ⟨b,o,none⟩):ZL W' b k s c v :=
 ⟨(hk 0).trans h.1,(hk 1).trans h.2.1,(hk 2).trans h.2.2.1,(hk 3).trans h.2.2.2⟩
theorem ZL.below {W W':World} {B b:Nat} {k:Int} {s:ByteArray} {c:Int} {v:Value} (h:ZL W b k s c v) (hb:Below B W W') (hB:b<B):ZL W' b k s c v:=h.keep fun o=>hb.cell (p:=⟨b,o,none⟩) hB
theorem ZL.new (w:World) (k:Int) (s:ByteArray) (c:Int) (v:Value) (T:TypeId):ZL (w.alloc (Obj.cells #[.int .i64 k,.string s,.int .i64 c,v] T)) w.heap.size k s c v:=by
 refine⟨?_,?_,?_,?_⟩<;>rw[World.cell?_alloc_new]<;>rfl
def YJ (W:World) (b:Nat):Prop:=W.frozen? ⟨b,0,none⟩=false/\W.frozen? ⟨b,1,none⟩=false/\W.frozen? ⟨b,2,none⟩=false/\W.frozen? ⟨b,3,none⟩=false
theorem YJ.new (w:World) (arr:Array Value) (T:TypeId):YJ (w.alloc (Obj.cells arr T)) w.heap.size :=
 ⟨XI _ _ _ _ _ rfl,XI _ _ _ _ _ rfl,XI _ _ _ _ _ rfl,XI _ _ _ _ _ rfl⟩
theorem YJ.below {W W':World} {B b:Nat} (h:YJ W b) (hb:Below B W W') (hB:b<B):YJ W' b :=
 ⟨(hb.frozen (p:=⟨b,0,none⟩) hB).trans h.1,(hb.frozen (p:=⟨b,1,none⟩) hB).trans h.2.1,(hb.frozen (p:=⟨b,2,none⟩) hB).trans h.2.2.1,(hb.frozen (p:=⟨b,3,none⟩) hB).trans h.2.2.2⟩
theorem Ry (t k:Z9) (i:Nat) (A B:Option Addr) (cap cb:Nat) (w:World) (S:Nat->Prop) (hS:∀q,S q->q<w.heap.size) (hi:i<t.kids.length) (bB:t.kids.length<=1000000) (hk:Zt k) (hv:Z8 Z7 w S t.kids (.slice A t.kids.length cap)) (aL:Z8 Z7 w S k.kids (.slice B k.kids.length cb)) :
  Calls Tryz.prog 80 #[.agg #[.int .i64 t.kind,.string t.text,.int .i64 t.cols,.slice A t.kids.length cap],.int .i64 i,.agg #[.int .i64 k.kind,.string k.text,.int .i64 k.cols,.slice B k.kids.length cb]] w (XO S w (Y0 t i k)):=by
 obtain⟨tk,tx,tc,ts⟩:=t;have HK:Hid (Zt k):=hk;clear hk;obtain⟨kk,kx,kc,ks⟩:=k;simp only[Z9.kind,Z9.text,Z9.cols,Z9.kids,Y0] at *;have HV:=hid hv;have bW:=hid aL;have HI:=hid hi;generalize ag:((w.alloc (Obj.cells #[.int .i64 tk,.string tx,.int .i64 tc,.slice A ts.length cap] 24)).alloc (Obj.cells #[.int .i64 kk,.string kx,.int .i64 kc,.slice B ks.length cb] 24)).alloc (Obj.cells #[.int .i64 0,.string ⟨#[]⟩,.int .i64 0,.slice none 0 0] 24)=W0;have ax:W0.heap.size=w.heap.size+1+1+1:=by rw[<-ag];simp
 have aG:Below w.heap.size w W0:=by rw[<-ag];exact Zq (Zq (ZX _ _) _) _
 have aD:ZL W0 w.heap.size tk tx tc (.slice A ts.length cap):=by
  rw[<-ag];exact((ZL.new w _ _ _ _ _).below (ZX _ _) (by simp)).below (ZX _ _) (by simp;omega)
 have aO:ZL W0 (w.heap.size+1) kk kx kc (.slice B ks.length cb):=by
  rw[<-ag];have h:=(ZL.new (w.alloc (Obj.cells #[.int .i64 tk,.string tx,.int .i64 tc,.slice A ts.length cap] 24)) kk kx kc (.slice B ks.length cb) 24).below (ZX _ (Obj.cells #[.int .i64 0,.string ⟨#[]⟩,.int .i64 0,.slice none 0 0] 24)) (by simp);simpa using h
 have aN:ZL W0 (w.heap.size+1+1) 0 ⟨#[]⟩ 0 (.slice none 0 0)/\YJ W0 (w.heap.size+1+1):=by
  rw[<-ag];have h:=ZL.new ((w.alloc (Obj.cells #[.int .i64 tk,.string tx,.int .i64 tc,.slice A ts.length cap] 24)).alloc (Obj.cells #[.int .i64 kk,.string kx,.int .i64 kc,.slice B ks.length cb] 24)) 0 ⟨#[]⟩ 0 (.slice none 0 0) 24;have h2:=YJ.new ((w.alloc (Obj.cells #[.int .i64 tk,.string tx,.int .i64 tc,.slice A ts.length cap] 24)).alloc (Obj.cells #[.int .i64 kk,.string kx,.int .i64 kc,.slice B ks.length cb] 24)) #[.int .i64 0,.string ⟨#[]⟩,.int .i64 0,.slice none 0 0] 24;exact⟨by simpa using h,by simpa using h2⟩
 have aC:YJ W0 w.heap.size:=by
  rw[<-ag];exact((YJ.new w _ _).below (ZX _ _) (by simp)).below (ZX _ _) (by simp;omega)
 have cK:=hid aG;have bu:=hid aD;have cB:=hid aO;have bz:=hid aN;have bY:=hid aC;have aA:=hid ax;have m3:=Ro W0 (.cells #[] 24) _ _ _ (by omega) aD.2.2.2;have f3:=oldF W0 (.cells #[] 24) _ _ (by omega) aC.2.2.2;have bQ:=hid (ZH.empty W0 S);have av:=hid hS;have aH:=hid (hv.keep (w':=W0.alloc (.cells #[] 24)) (fun q hq=>(Zq aG _).cell (hS _ hq)) (fun _ h=>h));have aB:Hid (w.heap.size<W0.heap.size):=by show _<_;omega
 have aJ:Hid (0<ts.length):=by show _<_;omega
 have bi:Hid (w.heap.size<=W0.heap.size):=by show _<=_;omega
 clear hS hv aL aG aD aO aN aC hi ax;go_enter Tryz.func80,Tryz.ntmps80
 go_upto_region 2 with first
  |(
    refine Wx rfl (.tmp 7) (.tmp 9) rfl W0.heap.size S (fun q hq=>QV (av.out q hq) bi.out) _ [] ts rfl bQ.out A ts.length cap rfl aH.out (by simp;omega) (by simp) ?_;intro v1 W1 ay aP;rw[List.nil_append] at ay;have af:=hid ((ZX W0 (.cells #[] 24)).trans (aP.mono (QT _)));obtain⟨g,n1,rfl,ah,az,aa⟩:=ay.some_ aJ.out;have bR:=hid ay;have aK:=hid ah;have bn:=hid az;have cu:=hid aa;have q3:=(bu.out.below af.out aB.out).2.2.2;have g3:=(bY.out.below af.out aB.out).2.2.2;clear ay aP ah az aa m3 f3)
 have bA:=aB.out;obtain⟨X,hX⟩:∃X,W1.setCell ⟨w.heap.size,3,none⟩ (.slice (some ⟨g,0,none⟩) ts.length n1)=X:=⟨_,rfl⟩;rw[hX];have aW:X.heap.size=W1.heap.size:=by rw[<-hX];simp[World.setCell]
 have au:∀p:Addr,p.block≠w.heap.size->X.cell? p=W1.cell? p:=fun p hp=>by rw[<-hX];exact World.cell?_setCell_other _ _ _ _ (fun e=>hp (by rw[<-e]))
 have aF:∀p:Addr,X.frozen? p=W1.frozen? p:=fun p=>by rw[<-hX];exact World.frozen?_setCell _ _ _ _
 have aX:Below w.heap.size w X:=by rw[<-hX];exact(cK.out.trans (af.out.mono bi.out)).setCell (QT _) _
 have x3:X.cell? ⟨w.heap.size,3,none⟩=some (.slice (some ⟨g,0,none⟩) ts.length n1):=by rw[<-hX];exact World.cell?_setCell_same _ _ _ q3
 have ⟨y0,y1,y2,_⟩:=bu.out.below af.out aB.out;have x0:X.cell? ⟨w.heap.size,0,none⟩=some (.int .i64 tk):=by rw[<-hX];exact(World.cell?_setCell_other _ _ _ _ (by simp)).trans y0
 have x1:X.cell? ⟨w.heap.size,1,none⟩=some (.string tx):=by rw[<-hX];exact(World.cell?_setCell_other _ _ _ _ (by simp)).trans y1
 have x2:X.cell? ⟨w.heap.size,2,none⟩=some (.int .i64 tc):=by rw[<-hX];exact(World.cell?_setCell_other _ _ _ _ (by simp)).trans y2
 have bC:=aA.out;have ah:=aK.out;have az:=bn.out;obtain⟨k0,k1,k2,k3⟩:=(cB.out.below af.out (by omega)).keep (fun o=>au ⟨w.heap.size+1,o,none⟩ (by simp));have bP:Hid (ZL X (w.heap.size+1+1) 0 ⟨#[]⟩ 0 (.slice none 0 0)):=(bz.out.1.below af.out (by omega)).keep (fun o=>au ⟨w.heap.size+1+1,o,none⟩ (by simp;omega));have aM:=bz.out.2.below af.out (by omega);have aj:∀j,j<4->(∃u,X.cell? ⟨g,i*4+j,none⟩=some u)/\X.frozen? ⟨g,i*4+j,none⟩=false:=fun j hj=>by
  obtain⟨⟨u,h1⟩,h2⟩:=cu.out (i*4+j) (by have:=HI.out;omega);exact⟨⟨u,(au ⟨g,i*4+j,none⟩ (by show g≠_;omega)).trans h1⟩,(aF _).trans h2⟩
 obtain⟨⟨u0,s0⟩,l0⟩:=aj 0 (by omega);obtain⟨⟨u1,s1⟩,l1⟩:=aj 1 (by omega);obtain⟨⟨u2,s2⟩,l2⟩:=aj 2 (by omega);obtain⟨⟨u3,s3⟩,l3⟩:=aj 3 (by omega);rw[Nat.add_zero] at s0 l0;have aY:=hid au;have bM:=hid aF;have aZ:=hid aX;have bN:Hid (ZL X w.heap.size tk tx tc (.slice (some ⟨g,0,none⟩) ts.length n1)):=⟨x0,x1,x2,x3⟩;have bZ:=hid aM;have bL:=hid aW;clear au aF aX hX aj y0 y1 y2 q3 g3 aM bC ah az bA aW;have i5:(0:Int)<=(i:Int):=by omega
 have i6:(i:Int)<(ts.length:Int):=by have:=HI.out;omega
 go_upto_region 3 with fail
 generalize hY:((((X.setCell _ (.int .i64 kk)).setCell _ (.string kx)).setCell _ (.int .i64 kc)).setCell _ (.slice B ks.length cb))=Y;obtain⟨⟨d0,d1,d2,d3⟩,bD,aV,ak,aT,aU⟩:=Xz s0 s1 s2 s3 _ _ _ _ hY.symm;have ah:=aK.out;have ax:=aA.out;have bU:=hid (bW.out.keep (w':=Y) (fun q hq=>(ak q (by have:q.block<w.heap.size:=av.out _ hq;omega)).trans (aZ.out.cell (av.out _ hq))) (fun _ h=>h));have aI:Hid (Z8 Z7 Y (fun q=>S q\/q=g) (ts.set i (Z9.mk kk kx kc ks)) (.slice (some ⟨g,0,none⟩) ts.length n1)):=ZH.put_ bR.out HI.out HK.out bU.out (fun q hq=>by have h9:q.block<w.heap.size:=av.out _ hq;exact(ak q (by omega)).trans (aY.out q (by omega))) d0 d1 d2 d3 (fun j hj=>(aT j hj).trans (aY.out _ (by show g≠_;omega)));obtain⟨z0,z1,z2,z3⟩:=bN.out.keep (fun o=>ak ⟨w.heap.size,o,none⟩ (by show w.heap.size≠g;omega));have bg:=bP.out.keep (fun o=>ak ⟨w.heap.size+1+1,o,none⟩ (by show w.heap.size+1+1≠g;omega));have ae:=hid bg;obtain⟨r0,r1,r2,r3⟩:=bg;obtain⟨p0,p1,p2,p3⟩:=bZ.out;have ai:∀o,W1.frozen? ⟨w.heap.size+1+1,o,none⟩=false->Y.frozen? ⟨w.heap.size+1+1,o,none⟩=false:=fun o h=>(aU _).trans ((bM.out _).trans h)
 replace p0:=ai _ p0
 replace p1:=ai _ p1
 replace p2:=ai _ p2
 replace p3:=ai _ p3
 have bK:=hid (aV w.heap.size w (by omega) aZ.out);have bG:Hid (g<Y.heap.size/\w.heap.size<Y.heap.size):=by show _/\_;have:=bn.out;have:=bL.out;omega
 clear hY bD aV ak aT aU d0 d1 d2 d3 s0 s1 s2 s3 l0 l1 l2 l3 x0 x1 x2 x3 k0 k1 k2 k3 ai ax
 go_wp2_with fail
 generalize hZ:((((Y.setCell _ (.int .i64 tk)).setCell _ (.string tx)).setCell _ (.int .i64 tc)).setCell _ (.slice (some ⟨g,0,none⟩) ts.length n1))=Z;obtain⟨⟨e0,e1,e2,e3⟩,aQ,aS,aR,_,_⟩:=Xz (o:=0) ae.out.1 ae.out.2.1 ae.out.2.2.1 ae.out.2.2.2 _ _ _ _ hZ.symm;simp only[Nat.zero_add] at e1 e2 e3;have bJ:=hid (aS w.heap.size w (by omega) bK.out);have bI:=hid aR;have bH:=hid aQ;clear hZ aQ aS aR;refine bodyPost_ret (v:=.agg #[.int .i64 tk,.string tx,.int .i64 tc,.slice (some ⟨g,0,none⟩) ts.length n1]) (by simp[results,Tryz.results80,go_sem,e0,e1,e2,e3]) rfl ?_;refine⟨_,rfl,aI.out.keep (fun q hq=>bI.out q ?_) (fun q hq=>?_),bJ.out⟩
 ·have h9:S q.block\/q.block=g:=hq;have:=aA.out;rcases h9 with h9|h9
  ·have:=av.out _ h9;omega
  omega
 have h9:S q\/q=g:=hq;have:=bG.out;have:=bH.out;have:=aK.out;have:=aA.out;rcases h9 with h9|h9
 ·exact .inl h9
 exact .inr ⟨by omega,by omega⟩
theorem UU (w:World) (A:Option Addr) (n c:Nat):Calls Tryz.prog 52 #[.slice A n c] w fun e w'=>e=.returned (.agg #[.int .i64 1,.string ⟨#[]⟩,.int .i64 0,.slice A n c])/\Below w.heap.size w w':=by
 go_enter Tryz.func52,Tryz.ntmps52
 go_wp2
 exact bodyPost_ret (v:=.agg #[.int .i64 1,.string ⟨#[]⟩,.int .i64 0,.slice A n c]) (by simp[results,Tryz.results52,go_sem]) rfl ⟨rfl,(QQ _ _).alloc (QT _) _⟩
theorem zFi (ts:List Z9) (A:Option Addr) (cap:Nat) (w:World) (hv:Z8 Z7 w (Lt w.heap.size) ts (.slice A ts.length cap)) (af:ZT ts<=100000000) :
  Calls Tryz.prog 68 #[.slice A ts.length cap] w fun e w'=>e=.returned (.bool (ZN (Z6 ts)))/\Below w.heap.size w w':=by
 have C1:Hid (∀W,Below w.heap.size w W->Calls Tryz.prog 29 #[.agg #[.int .i64 1,.string ⟨#[]⟩,.int .i64 0,.slice A ts.length cap]] W fun e w'=>e=.returned (.bool (ZN (Z6 ts)))/\Below W.heap.size W w') :=
  fun W hW=>Tm (Z6 ts) A cap W (hv.below hW hW.size) (show (⟨#[]⟩:ByteArray).size<=maxLen from QU _) (by unfold Z6;rw[ZW];omega)
 clear hv af;go_enter Tryz.func68,Tryz.ntmps68
 go_wp2_with fail
 refine(UU _ _ _ _).mono ?_;rintro e w1 ⟨rfl,ae⟩;have aa:=hid ae;clear ae
 go_wp2_with fail
 refine(C1.out _ aa.out).mono ?_;rintro e w2 ⟨rfl,ag⟩
 go_wp2_with fail
 go_ret;exact⟨rfl,aa.out.trans (ag.mono aa.out.size)⟩
theorem ZH.rowsN {w:World} {b:Nat} {S:Nat->Prop} {ts:List Z9} {v:Value} (h:ZH w b S ts v):Z8 Z7 w (fun q=>S q\/b<=q/\q<w.heap.size) ts v:=by
 obtain⟨cs,h1,h2⟩:=h;exact Z8.of_own (E:=Z7) h1 (fun k hk=>.inr (h1.lt k hk)) (h2.keep (WI _ _) (fun _ h=>.inl h))
theorem newer {w w':World} {S:Nat->Prop} {b:Nat} {l:List Z9} {v:Value} (h:Z8 Z7 w (fun q=>S q\/b<=q/\q<w.heap.size) l v) (hS:∀q,S q->q<w.heap.size) (hb:Below w.heap.size w w'):Z8 Z7 w' (fun q=>S q\/b<=q/\q<w'.heap.size) l v :=
 h.keep (fun q hq=>hb.cell (by rcases hq with hq|hq;exact hS _ hq;exact hq.2)) (fun q hq=>by rcases hq with hq|hq;exact .inl hq;exact .inr ⟨hq.1,QV hq.2 hb.size⟩)
def Zp (t:Z9) (i:Nat) (l:List Z9):Z9:=Y0 t i (Z6 l)
theorem XF {W X:World} (h:Below W.heap.size W X):Below W.heap.size W X.drew:=⟨h.os,h.tape,h.output,h.size,h.block⟩
theorem Xt {w w':World} {B:Nat} (h:Below B w.drew w'):Below B w w':=⟨h.os,h.tape,h.output,h.size,h.block⟩
theorem zJr (t:Z9) (i:Nat) (l:List Z9) (A B:Option Addr) (cap cb:Nat) (w:World) (S:Nat->Prop) (hS:∀q,S q->q<w.heap.size) (hi:i<t.kids.length) (ag:t.kids.length<=1000000) (hll:l.length<=1000000) (hv:Z8 Z7 w S t.kids (.slice A t.kids.length cap)) (hl:Z8 Z7 w S l (.slice B l.length cb)) :
  Calls Tryz.prog 105 #[.agg #[.int .i64 t.kind,.string t.text,.int .i64 t.cols,.slice A t.kids.length cap],.int .i64 i,.slice B l.length cb] w (XO S w (Zp t i l)):=by
 have CR:Hid (∀W v,Below w.heap.size w W->Z8 Z7 W (fun q=>S q\/w.heap.size+1+1<=q/\q<W.heap.size) l v->∀B' c',v=.slice B' l.length c'->Calls Tryz.prog 80 #[.agg #[.int .i64 t.kind,.string t.text,.int .i64 t.cols,.slice A t.kids.length cap],.int .i64 i,.agg #[.int .i64 1,.string ⟨#[]⟩,.int .i64 0,.slice B' l.length c']] W (XO (fun q=>S q\/w.heap.size+1+1<=q/\q<W.heap.size) W (Zp t i l))):=by
  intro W v hW hr B' c' aV;subst aV;exact Ry t (Z6 l) i A B' cap c' W _ (fun q hq=>by
   have hz:=hW.size;rcases hq with hq|hq
   ·have:=hS q hq;omega
   exact hq.2) hi ag ⟨by simp[Z6,Z9.kind,Z4],by simp[Z6,Z9.cols,Z4],QU _⟩ (hv.keep (fun q hq=>hW.cell (hS _ hq)) (fun q hq=>.inl hq)) hr
 have HFS:Hid (Zp t i l=Zp t i l):=rfl;generalize Zp t i l=R at *;obtain⟨tk,tx,tc,ts⟩:=t;obtain⟨rk,rx,rc,rs⟩:=R;simp only[Z9.kind,Z9.text,Z9.cols,Z9.kids] at *;generalize ai:(w.alloc (Obj.cells #[.int .i64 tk,.string tx,.int .i64 tc,.slice A ts.length cap] 24)).alloc (Obj.cells #[.int .i64 0,.string ⟨#[]⟩,.int .i64 0,.slice none 0 0] 24)=W0;have aD:W0.heap.size=w.heap.size+1+1:=by rw[<-ai];simp
 have ak:Below w.heap.size w W0:=by rw[<-ai];exact Zq (ZX _ _) _
 have aH:ZL W0 w.heap.size tk tx tc (.slice A ts.length cap):=by
  rw[<-ai];exact(ZL.new w _ _ _ _ _).below (ZX _ _) (by simp)
 have ay:ZL W0 (w.heap.size+1) 0 ⟨#[]⟩ 0 (.slice none 0 0)/\YJ W0 (w.heap.size+1):=by
  rw[<-ai];have h:=ZL.new (w.alloc (Obj.cells #[.int .i64 tk,.string tx,.int .i64 tc,.slice A ts.length cap] 24)) 0 ⟨#[]⟩ 0 (.slice none 0 0) 24;have h2:=YJ.new (w.alloc (Obj.cells #[.int .i64 tk,.string tx,.int .i64 tc,.slice A ts.length cap] 24)) #[.int .i64 0,.string ⟨#[]⟩,.int .i64 0,.slice none 0 0] 24;exact⟨by simpa using h,by simpa using h2⟩
 have KC:Hid (∀W,Below W0.heap.size W0 W->ZL W w.heap.size tk tx tc (.slice A ts.length cap)/\ZL W (w.heap.size+1) 0 ⟨#[]⟩ 0 (.slice none 0 0)/\YJ W (w.heap.size+1)/\Below w.heap.size w W):=fun W h=>⟨aH.below h (by omega),ay.1.below h (by omega),ay.2.below h (by omega),ak.trans (h.mono ak.size)⟩
 have aG:Z8 Z7 W0 S l (.slice B l.length cb):=hl.keep (fun q hq=>ak.cell (hS _ hq)) (fun _ h=>h);have aB:Hid (∀W',W'=W0.alloc (.cells #[] 24)->ZH W'.drew W0.heap.size S [] (.slice (some ⟨W0.heap.size,0,none⟩) 0 0)/\Z8 Z7 W'.drew S l (.slice B l.length cb)/\Below W0.heap.size W0 W'.drew):=by
  rintro W' rfl;have hb:Below W0.heap.size W0 (W0.alloc (.cells #[] 24)).drew:=(ZX _ _).drew;exact⟨ZH.empty W0 S,aG.keep (fun q hq=>hb.cell (by have:=hS _ hq;omega)) (fun _ h=>h),hb⟩
 have aO:=hid aD;have aT:Hid (w.heap.size<=W0.heap.size):=by show _<=_;omega
 have aA:=hid hS;obtain⟨m0,m1,m2,m3⟩:=aH;clear hS hv hl aG hi ag ak ay aD;go_enter Tryz.func105,Tryz.ntmps105
 go_wp2_with fail
 clear ai
 go_region_held3 (fun w'=>w'.cell? ⟨w.heap.size,0,none⟩=some (.int .i64 tk)/\w'.cell? ⟨w.heap.size,1,none⟩=some (.string tx)/\w'.cell? ⟨w.heap.size,2,none⟩=some (.int .i64 tc)/\w'.cell? ⟨w.heap.size,3,none⟩=some (.slice A ts.length cap)) (go_keep) (first
  |(refine zPh (by rfl) (.tmp 9) (.tmp 10) (by rfl) W0.heap.size S (fun q hq=>QV (aA.out q hq) aT.out) _ [] l (by rfl) (aB.out _ rfl).1 _ _ _ (by rfl) (aB.out _ rfl).2.1 (by simp;omega) (by simp) ?_;intro v1 w1 aa aI;rw[List.nil_append] at aa;have av:=hid ((aB.out _ rfl).2.2.trans aI);have aS:Hid (Z8 Z7 w1 (fun q=>S q\/w.heap.size+1+1<=q/\q<w1.heap.size) l v1):=by { have h:=aa.rowsN;rw[aO.out] at h;exact h };have aQ:Hid (∀q,S q->q<w1.heap.size):=fun q hq=>QV (aA.out q hq) (QP aT.out av.out.size);obtain⟨A1,n1,rfl⟩:=aa.form;obtain⟨⟨p0,p1,p2,p3⟩,_⟩:=KC.out w1 av.out;clear aa aI)
  |(go_at_call 52;refine(UU _ _ _ _).mono ?_;rintro e w2 ⟨rfl,af⟩;have aj:=hid (Zx av.out (Xt af));have aR:Hid (Z8 Z7 w2 (fun q=>S q\/w.heap.size+1+1<=q/\q<w2.heap.size) l (.slice A1 l.length n1)):=newer aS.out aQ.out (Xt af);obtain⟨⟨p0,p1,p2,p3⟩,_,_,ae⟩:=KC.out w2 aj.out;have aU:=hid ae;clear af ae)
  |(go_at_call 52;refine(UU _ _ _ _).mono ?_;rintro e w2 ⟨rfl,af⟩;have aj:=hid (Zx av.out af);have aR:Hid (Z8 Z7 w2 (fun q=>S q\/w.heap.size+1+1<=q/\q<w2.heap.size) l (.slice A1 l.length n1)):=newer aS.out aQ.out af;obtain⟨⟨p0,p1,p2,p3⟩,_,_,ae⟩:=KC.out w2 aj.out;have aU:=hid ae;clear af ae)
  |(go_at_call 80;refine(CR.out _ _ aU.out aR.out _ _ rfl).mono ?_;intro e w3 h3;obtain⟨v3,rfl,ax,az⟩:∃v,e=.returned (.agg #[.int .i64 rk,.string rx,.int .i64 rc,v])/\Z8 Z7 w3 (fun q=>(S q\/w.heap.size+1+1<=q/\q<w2.heap.size)\/w2.heap.size<=q/\q<w3.heap.size) rs v/\Below w2.heap.size w2 w3:=h3;obtain⟨A3,n3,rfl⟩:=ax.form;have aY:=hid ax;have bg:=hid (Zx aj.out az);have aP:=hid az;obtain⟨⟨p0,p1,p2,p3⟩,aF,⟨f0,f1,f2,f3⟩,ah⟩:=KC.out w3 bg.out;have au:=hid aF;obtain⟨r0,r1,r2,r3⟩:=aF;have aZ:=hid ah;clear az ah ax))
 all_goals
  have aC:w.heap.size+1<w2.heap.size:=by have:=aj.out.size;have:=aO.out;omega
  have aN:=hid aC;clear aC
  go_wp2_with fail
  generalize hZ:((((w3.setCell _ (.int .i64 rk)).setCell _ (.string rx)).setCell _ (.int .i64 rc)).setCell _ (.slice A3 rs.length n3))=Z;obtain⟨⟨e0,e1,e2,e3⟩,aJ,aL,aK,_,_⟩:=Xz (o:=0) au.out.1 au.out.2.1 au.out.2.2.1 au.out.2.2.2 _ _ _ _ hZ.symm;simp only[Nat.zero_add] at e1 e2 e3;have aX:=hid (aL w.heap.size w (by omega) aZ.out);have aW:=hid aK;have aM:=hid aJ;clear hZ aJ aL aK;refine bodyPost_ret (v:=.agg #[.int .i64 rk,.string rx,.int .i64 rc,.slice A3 rs.length n3]) (by simp[results,Tryz.results105,go_sem,e0,e1,e2,e3]) rfl ?_;have aP:=aP.out.size;have aN:=aN.out;have aM:=aM.out;refine⟨_,rfl,aY.out.keep (fun q hq=>aW.out q ?_) (fun q hq=>?_),aX.out⟩
  ·rcases hq with (hq|hq)|hq
   ·have:=aA.out _ hq;omega
   ·omega
   omega
  rcases hq with (hq|hq)|hq
  ·exact .inl hq
  ·exact .inr ⟨by omega,by omega⟩
  exact .inr ⟨by omega,by omega⟩
def Zk (l:List Z9) (a b:Nat) (by_:List Z9):List Z9:=l.take a++by_++l.drop b
def XN (S:Nat->Prop) (w:World) (L:List Z9) (e:Ending) (w':World):Prop :=
 ∃v,e=.returned v/\Z8 Z7 w' (fun q=>S q\/w.heap.size<=q/\q<w'.heap.size) L v/\Below w.heap.size w w'
theorem RG (l bs:List Z9) (x y:Int) (a b:Nat) (A B:Option Addr) (cap cb:Nat) (w:World) (S:Nat->Prop) (hS:∀q,S q->q<w.heap.size) (hx:x=a) (hy:y=b) (ha:a<=l.length) (hb:b<=l.length) (ax:l.length<=1000000) (ay:bs.length<=1000000) (hv:Z8 Z7 w S l (.slice A l.length cap)) (hl:Z8 Z7 w S bs (.slice B bs.length cb)) :
  Calls Tryz.prog 104 #[.slice A l.length cap,.int .i64 x,.int .i64 y,.slice B bs.length cb] w (XN S w (Zk l a b bs)):=by
 have aF:l.length<=cap:=by obtain⟨_,_,_,hq,h1,_⟩:=hv;cases hq;exact h1
 obtain⟨A1,aD,ae⟩:=UJ Z7 Tryz.underlying22 VZ A l.length cap x a hx ha aF;obtain⟨A2,aC,aa⟩:=Wn Z7 Tryz.underlying22 VZ A l.length cap y b hy hb;have ag:=hid hS;have aL:=hid (ae _ _ _ hv);have aK:=hid (aa _ _ _ hv);have aM:=hid hl;have aG:=hid (ZH.empty w S);have HL:Hid (Zk l a b bs=l.take a++bs++l.drop b):=rfl;have hk:∀{ts:List Z9} {v:Value} {W:World},Z8 Z7 w S ts v->Below w.heap.size w W->Z8 Z7 W S ts v:=fun h hW=>h.keep (fun q hq=>hW.cell (hS _ hq)) (fun _ h=>h)
 have ai:Hid (∀(ts:List Z9) (v:Value) (W:World),Z8 Z7 w S ts v->Below w.heap.size w W->Z8 Z7 W S ts v):=fun _ _ _ h hW=>hk h hW
 have ah:Hid (a<=l.length/\b<=l.length/\l.length<=1000000/\bs.length<=1000000):=⟨ha,hb,ax,ay⟩;generalize Zk l a b bs=L at *;clear hv hl hS ae aa hx hy ha hb ax ay hk;go_enter Tryz.func104,Tryz.ntmps104
 go_wp2_with first
  |(
   refine Wx rfl (.tmp 10) (.tmp 13) rfl w.heap.size S (fun q hq=>ag.out q hq) _ [] (l.take a) rfl aG.out _ _ _ rfl (ai.out _ _ _ aL.out (ZX _ _)) (by have:=ah.out;simp;omega) (by simp) ?_;intro v1 w1 af aB;rw[List.nil_append] at af;have aJ:=hid af;have ak:=hid ((ZX w (.cells #[] 24)).trans aB);clear af aB)
  |(
   refine Wx rfl (.tmp 15) (.tmp 16) rfl w.heap.size S (fun q hq=>ag.out q hq) _ (l.take a) bs rfl aJ.out _ _ _ rfl (ai.out _ _ _ aM.out ak.out) (by have:=ah.out;simp;omega) ak.out.size ?_;intro v2 w2 av aA;have aI:=hid av;have aj:=hid (ak.out.trans aA);clear av aA)
  |(
   refine Wx rfl (.tmp 18) (.tmp 21) rfl w.heap.size S (fun q hq=>ag.out q hq) _ (l.take a++bs) (l.drop b) rfl aI.out _ _ _ rfl (ai.out _ _ _ aK.out aj.out) (by have:=ah.out;simp;omega) aj.out.size ?_;intro v3 w3 au az;have aH:=hid au;have aN:=hid (aj.out.trans az);clear au az)
 go_ret;exact⟨_,rfl,by rw[HL.out];exact aH.out.rowsN,aN.out⟩
theorem Wi (p:Xw) (after:Bool) (Ar An As:Option Addr) (lr cr ln cn cs:Nat) (w:World) (hp:p.Ok) (hs:Z0 w (Lt w.heap.size) p.rest (.slice As p.rest.length cs)) :
  Calls Tryz.prog 131 #[.agg (Xu p (.slice Ar lr cr) (.slice An ln cn) (.slice As p.rest.length cs)),.bool after] w (WZ w (XT p after)):=by
 have H:=hid (QS hp hs);obtain⟨aC,hn,ah,hk,au,ay,ak,aj,az⟩:=hp;unfold Bd at aC hn ah au ay;obtain⟨aL,aK⟩:=aC;obtain⟨aB,aA⟩:=au;obtain⟨aI,hn2⟩:=hn;obtain⟨aF,aD⟩:=ah;obtain⟨hs1,hs2⟩:=ay;have aH:=hid az;clear ak aj az hs;obtain⟨⟨kind,row,at_,n,nodes,aa,old,text⟩,k,index,inside,slot,rest⟩:=p;simp only[Xu] at *;rcases Int.lt_trichotomy index at_ with aJ|ax|hgt
 ·have ax:(index==at_)=false:=by simp;omega
  have ae:XT ⟨⟨kind,row,at_,n,nodes,aa,old,text⟩,k,index,inside,slot,rest⟩ after=YU ⟨⟨kind,row,at_,n,nodes,aa,old,text⟩,k,index,inside,slot,rest⟩ [index]:=by unfold XT;rw[if_neg (by simp;omega),if_pos (Or.inl aJ)]
  cases inside
  ·skip
   have HF:=hid ae;clear ae;go_enter Tryz.func131,Tryz.ntmps131
   go_wp2_with fail
   go_quiet (fail)
   go_wp2_with fail
   refine(Ya _ Ar An As lr cr ln cn cs w _ H.out.1 H.out.2 (by first|exact ZO _ _|exact YX (ZO _ _) _) [index] (m1 _) (by simp) _ _ rfl (by simp) _ rfl).mono ?_;rintro e w1 ⟨v1,rfl,af,ag⟩;have HV:=hid af;have HB:=hid ag;clear af ag
   go_wp2_with fail
   go_ret;rw[HF.out];exact⟨_,rfl,HV.out,HB.out⟩
  skip
  have HF:=hid ae;clear ae;go_enter Tryz.func131,Tryz.ntmps131
  go_wp2_with fail
  go_quiet (fail)
  go_wp2_with fail
  refine(Ya _ Ar An As lr cr ln cn cs w _ H.out.1 H.out.2 (by first|exact ZO _ _|exact YX (ZO _ _) _) [index] (m1 _) (by simp) _ _ rfl (by simp) _ rfl).mono ?_;rintro e w1 ⟨v1,rfl,af,ag⟩;have HV:=hid af;have HB:=hid ag;clear af ag
  go_wp2_with fail
  go_ret;rw[HF.out];exact⟨_,rfl,HV.out,HB.out⟩
 ·subst ax;cases inside with
  |
   false =>
   by_cases av:n=0
   ·subst av;cases after with
    |
     true =>
     have ae:XT ⟨⟨kind,row,index,0,nodes,aa,old,text⟩,k,index,false,slot,rest⟩ true=[index+1]:=by unfold XT;rw[if_pos ⟨rfl,rfl,rfl,rfl⟩]
     have HF:=hid ae;clear ae;go_enter Tryz.func131,Tryz.ntmps131
     go_wp2_with fail
     go_quiet (fail)
     go_wp2_with fail
     go_ret;rw[HF.out];exact⟨_,rfl,Yg (by first|exact ZO _ _|exact YX (ZO _ _) _) [index+1] (m1 _) (by simp) _ _ rfl (by simp) _ rfl⟩
    |
     false =>
     have ae:XT ⟨⟨kind,row,index,0,nodes,aa,old,text⟩,k,index,false,slot,rest⟩ false=YU ⟨⟨kind,row,index,0,nodes,aa,old,text⟩,k,index,false,slot,rest⟩ [index]:=by unfold XT;rw[if_neg (by simp),if_pos (Or.inr ⟨rfl,rfl⟩)]
     have HF:=hid ae;clear ae;go_enter Tryz.func131,Tryz.ntmps131
     go_wp2_with fail
     go_quiet (fail)
     go_wp2_with fail
     refine(Ya _ Ar An As lr cr ln cn cs w _ H.out.1 H.out.2 (by first|exact ZO _ _|exact YX (ZO _ _) _) [index] (m1 _) (by simp) _ _ rfl (by simp) _ rfl).mono ?_;rintro e w1 ⟨v1,rfl,af,ag⟩;have HV:=hid af;have HB:=hid ag;clear af ag
     go_wp2_with fail
     go_ret;rw[HF.out];exact⟨_,rfl,HV.out,HB.out⟩
   have aI:(n==0)=false:=by simpa using av
   have ae:XT ⟨⟨kind,row,index,n,nodes,aa,old,text⟩,k,index,false,slot,rest⟩ after=YU ⟨⟨kind,row,index,n,nodes,aa,old,text⟩,k,index,false,slot,rest⟩ [index]:=by unfold XT;rw[if_neg (by simp[av]),if_pos (Or.inr ⟨rfl,rfl⟩)]
   clear av;have HF:=hid ae;clear ae;go_enter Tryz.func131,Tryz.ntmps131
   go_wp2_with fail
   go_quiet (fail)
   go_wp2_with fail
   refine(Ya _ Ar An As lr cr ln cn cs w _ H.out.1 H.out.2 (by first|exact ZO _ _|exact YX (ZO _ _) _) [index] (m1 _) (by simp) _ _ rfl (by simp) _ rfl).mono ?_;rintro e w1 ⟨v1,rfl,af,ag⟩;have HV:=hid af;have HB:=hid ag;clear af ag
   go_wp2_with fail
   go_ret;rw[HF.out];exact⟨_,rfl,HV.out,HB.out⟩
  |
   true =>
   by_cases ai:index<index+n
   ·have ae:XT ⟨⟨kind,row,index,n,nodes,aa,old,text⟩,k,index,true,slot,rest⟩ after=YU ⟨⟨kind,row,index,n,nodes,aa,old,text⟩,k,index,true,slot,rest⟩ [index,aa,0]:=by unfold XT;rw[if_neg (by simp),if_neg (by simp),if_pos ai];simp
    have hd:decide (index<index+n)=true:=by simpa using ai
    have HF:=hid ae;clear ae;go_enter Tryz.func131,Tryz.ntmps131
    go_wp2_with fail
    go_quiet (fail)
    go_wp2_with fail
    refine(Ya _ Ar An As lr cr ln cn cs w _ H.out.1 H.out.2 (by first|exact ZO _ _|exact YX (ZO _ _) _) [index,aa,0] (m3 _ _ _) (by simp) _ _ rfl (by simp) _ rfl).mono ?_;rintro e w1 ⟨v1,rfl,af,ag⟩;have HV:=hid af;have HB:=hid ag;clear af ag
    go_wp2_with fail
    go_ret;rw[HF.out];exact⟨_,rfl,HV.out,HB.out⟩
   have ae:XT ⟨⟨kind,row,index,n,nodes,aa,old,text⟩,k,index,true,slot,rest⟩ after=YU ⟨⟨kind,row,index,n,nodes,aa,old,text⟩,k,index,true,slot,rest⟩ [index-n+1]:=by unfold XT;rw[if_neg (by simp),if_neg (by simp),if_neg ai]
   have hd:decide (index<index+n)=false:=by simpa using ai
   have HF:=hid ae;clear ae;go_enter Tryz.func131,Tryz.ntmps131
   go_wp2_with fail
   go_quiet (fail)
   go_wp2_with fail
   refine(Ya _ Ar An As lr cr ln cn cs w _ H.out.1 H.out.2 (by first|exact ZO _ _|exact YX (ZO _ _) _) [index-n+1] (m1 _) (by simp) _ _ rfl (by simp) _ rfl).mono ?_;rintro e w1 ⟨v1,rfl,af,ag⟩;have HV:=hid af;have HB:=hid ag;clear af ag
   go_wp2_with fail
   go_ret;rw[HF.out];exact⟨_,rfl,HV.out,HB.out⟩
 have ax:(index==at_)=false:=by simp;omega
 have aG:decide (index<at_)=false:=by simp;omega
 by_cases ai:index<at_+n
 ·have ae:XT ⟨⟨kind,row,at_,n,nodes,aa,old,text⟩,k,index,inside,slot,rest⟩ after=YU ⟨⟨kind,row,at_,n,nodes,aa,old,text⟩,k,index,inside,slot,rest⟩ [at_,aa,index-at_]:=by unfold XT;rw[if_neg (by simp;omega),if_neg (by simp;omega),if_pos ai]
  cases inside
  ·skip
   have HF:=hid ae;clear ae;go_enter Tryz.func131,Tryz.ntmps131
   go_wp2_with fail
   go_quiet (fail)
   go_wp2_with fail
   refine(Ya _ Ar An As lr cr ln cn cs w _ H.out.1 H.out.2 (by first|exact ZO _ _|exact YX (ZO _ _) _) [at_,aa,index-at_] (m3 _ _ _) (by simp) _ _ rfl (by simp) _ rfl).mono ?_;rintro e w1 ⟨v1,rfl,af,ag⟩;have HV:=hid af;have HB:=hid ag;clear af ag
   go_wp2_with fail
   go_ret;rw[HF.out];exact⟨_,rfl,HV.out,HB.out⟩
  skip
  have HF:=hid ae;clear ae;go_enter Tryz.func131,Tryz.ntmps131
  go_wp2_with fail
  go_quiet (fail)
  go_wp2_with fail
  refine(Ya _ Ar An As lr cr ln cn cs w _ H.out.1 H.out.2 (by first|exact ZO _ _|exact YX (ZO _ _) _) [at_,aa,index-at_] (m3 _ _ _) (by simp) _ _ rfl (by simp) _ rfl).mono ?_;rintro e w1 ⟨v1,rfl,af,ag⟩;have HV:=hid af;have HB:=hid ag;clear af ag
  go_wp2_with fail
  go_ret;rw[HF.out];exact⟨_,rfl,HV.out,HB.out⟩
 have ae:XT ⟨⟨kind,row,at_,n,nodes,aa,old,text⟩,k,index,inside,slot,rest⟩ after=YU ⟨⟨kind,row,at_,n,nodes,aa,old,text⟩,k,index,inside,slot,rest⟩ [index-n+1]:=by unfold XT;rw[if_neg (by simp;omega),if_neg (by simp;omega),if_neg ai]
 cases inside
 ·skip
  have HF:=hid ae;clear ae;go_enter Tryz.func131,Tryz.ntmps131
  go_wp2_with fail
  go_quiet (fail)
  go_wp2_with fail
  refine(Ya _ Ar An As lr cr ln cn cs w _ H.out.1 H.out.2 (by first|exact ZO _ _|exact YX (ZO _ _) _) [index-n+1] (m1 _) (by simp) _ _ rfl (by simp) _ rfl).mono ?_;rintro e w1 ⟨v1,rfl,af,ag⟩;have HV:=hid af;have HB:=hid ag;clear af ag
  go_wp2_with fail
  go_ret;rw[HF.out];exact⟨_,rfl,HV.out,HB.out⟩
 skip
 have HF:=hid ae;clear ae;go_enter Tryz.func131,Tryz.ntmps131
 go_wp2_with fail
 go_quiet (fail)
 go_wp2_with fail
 refine(Ya _ Ar An As lr cr ln cn cs w _ H.out.1 H.out.2 (by first|exact ZO _ _|exact YX (ZO _ _) _) [index-n+1] (m1 _) (by simp) _ _ rfl (by simp) _ rfl).mono ?_;rintro e w1 ⟨v1,rfl,af,ag⟩;have HV:=hid af;have HB:=hid ag;clear af ag
 go_wp2_with fail
 go_ret;rw[HF.out];exact⟨_,rfl,HV.out,HB.out⟩
def Yt (pos row:List Int):Bool:=decide (row.length<pos.length/\pos.take row.length=row/\pos.length≠row.length+2)
theorem zV6 (pos row:List Int) (w:World) (a b:Value) (B B':Nat->Prop) (ha:Z0 w B pos a) (hb:Z0 w B' row b) (hll:row.length<=1000000) :
  Calls Tryz.prog 109 #[a,b] w fun e w'=>e=.returned (.bool (Yt pos row))/\∃n,w'=w.drewN n:=by
 obtain⟨A,cap,rs,rfl,ay,ah,ak,av⟩:=ha;obtain⟨A',cap',aj,rfl,ax,af,ae,ag⟩:=hb;unfold maxLen at ah af;have hl1:pos.length<=9223372036854775807:=by omega
 have H:Hid ((Zl w B A rs/\ZK ZF w B pos rs)/\(Zl w B' A' aj/\ZK ZF w B' row aj)):=⟨⟨ak,av⟩,⟨ae,ag⟩⟩;clear ak av ae ag;by_cases au:row.length<pos.length
 ·go_enter Tryz.func109,Tryz.ntmps109
  go_wp2_with fail
  go_loopw [5] (fun i wr=>(∃n,wr=w.drewN n)/\∃(k:Nat),k<=row.length/\i=.int .i64 k/\pos.take k=row.take k) (fun i _=>row.length-(intOf i).toNat)
  case atStart=>exact⟨⟨0,rfl⟩,0,QU _,rfl,rfl⟩
  obtain⟨⟨n,rfl⟩,k,hk,rfl,aa⟩:=hrel;have HR:=hid aa;clear aa;by_cases hx:k<row.length
  ·have hy:k<pos.length:=by omega
   obtain⟨g,o,rfl,hg,hi,c0⟩:=YG H.out.1.1 H.out.1.2 hy;obtain⟨g',o',rfl,hg',hi',c0'⟩:=YG H.out.2.1 H.out.2.2 hx;have i1:(k:Int)<(row.length:Int):=by omega
   have i2:(k:Int)<(pos.length:Int):=by omega
   by_cases h1:pos[k]=row[k]
   ·have HF:Hid (pos.take (k+1)=row.take (k+1)):=by show _=_;rw[List.take_succ_eq_append_getElem hx,List.take_succ_eq_append_getElem hy,HR.out,h1]
    have hd:(pos[k] != row[k])=false:=by simpa using h1
    clear h1
    go_wp2
    go_quiet (fail)
    go_wp2
    go_roundw
    case rel=>exact⟨by first|exact⟨_,rfl⟩|(simp only[World.drewN_drewN];exact⟨_,rfl⟩),k+1,by omega,by go_num,HF.out⟩
    case measure=>simp[intOf];omega
   have HF:Hid (Yt pos row=false):=by
    show _=_;unfold Yt;refine decide_eq_false fun h=>h1 ?_
    have h2:(pos.take row.length)[k]?=row[k]?:=by rw[h.2.1]
    rw[List.getElem?_take,if_pos hx,List.getElem?_eq_getElem hy,List.getElem?_eq_getElem hx] at h2;exact Option.some.inj h2
   have hd:(pos[k] != row[k])=true:=by simpa using h1
   clear h1
   go_wp2
   go_quiet (fail)
   go_wp2
   go_ret;exact⟨by rw[HF.out];rfl,by first|exact⟨_,rfl⟩|(simp only[World.drewN_drewN];exact⟨_,rfl⟩)⟩
  have ai:k=row.length:=by omega
  have ht:pos.take row.length=row:=by have:=HR.out;rw[ai,List.take_length] at this;exact this
  by_cases h2:pos.length=row.length+2
  ·have HF:Hid (Yt pos row=false):=by show _=_;unfold Yt;exact decide_eq_false fun h=>h.2.2 h2
   have hd:((pos.length:Int) != (row.length:Int)+2)=false:=by simp;omega
   clear h2 ht ai
   go_wp2
   go_ret;exact⟨by rw[HF.out];rfl,by first|exact⟨_,rfl⟩|(simp only[World.drewN_drewN];exact⟨_,rfl⟩)⟩
  have HF:Hid (Yt pos row=true):=by show _=_;unfold Yt;exact decide_eq_true ⟨au,ht,h2⟩
  have hd:((pos.length:Int) != (row.length:Int)+2)=true:=by simp;omega
  clear h2 ht ai
  go_wp2
  go_ret;exact⟨by rw[HF.out];rfl,by first|exact⟨_,rfl⟩|(simp only[World.drewN_drewN];exact⟨_,rfl⟩)⟩
 have HF:Hid (Yt pos row=false):=by show _=_;unfold Yt;exact decide_eq_false fun h=>au h.1
 go_enter Tryz.func109,Tryz.ntmps109
 go_wp2_with fail
 go_ret;exact⟨by rw[HF.out];rfl,0,rfl⟩
theorem zV0 {w:World} {ops:Array Oper} {o:Oper} {a:Act} {K:Act->World->Prop} {Q:Exit->Act->World->Prop} {E:Prop} (au:o.guard=none) (s x:Operand)
  (ho:o.op=.call { callee:=.builtin .append,args:=#[s,x],argTypes:=#[25,25] })
  (b:Nat) (v:Value) (xs ys:List Int) (hs:a.eval s=v) (aa:Zi w b xs v) (S:Nat->Prop) (A:Option Addr) (m c:Nat) (hx:a.eval x=.slice A m c) (hr:Z0 w S ys (.slice A m c))
  (af:xs.length+ys.length<=1000000000) (hb:b<=w.heap.size)
  (h:∀v' w',Zi w' b (xs++ys) v'->Below b w w'->(v'.ownBlock=v.ownBlock\/v'.ownBlock=some w.heap.size)->K (a.put o.dst v') w') :
  if Region.wanted o (yielded ops a.tmps)=true then Oper.wp Tryz.prog o a w K Q else E:=by
 obtain⟨i0,ak,ai,ah,ag⟩:=info_parts R9;obtain⟨A',cap',rs,e,h1,h2,aj,ae⟩:=hr;injection e with e1 e2 e3
 subst e1 e2 e3;have hl:=ae.len;have hp:=(VD.1 ae);refine Tj w au s x 25 ho b 3 i0 _ 1 8 Tryz.underlying25 ak ai ah ag rfl (by omega) v _ _ hs aa.1 S A _ c rs hx hl aj ae.one (by simp only[maxLen];omega) (by omega) hb ?_;intro v' w' h3 h4 h5;refine h v' w' ⟨?_,?_⟩ (WF _ aa.1 h4 hb) h5
 ·rw[List.length_append,List.map_append,<-hp.1];exact h3
 intro y hy;rcases List.mem_append.1 hy with hy|hy
 ·exact aa.2 y hy
 exact hp.2 y hy
theorem Ru (W:World) (b:Nat) (xs:List Int) (ae:∀x∈xs,Z4 x) (n g:Nat) (hn:n=xs.length) (hg:g=W.heap.size) (hb:b<=W.heap.size) (arr:Array Value) (aa:arr=(xs.map (Value.int .i64 ·)).toArray) (hl:n<=maxLen) :
  Zi (W.alloc (.cells arr 3)) b xs (.slice (some ⟨g,0,none⟩) n n):=by
 subst hn hg aa;refine⟨⟨by simp,.inr ⟨W.heap.size,xs.length,_,rfl,hb,heap_alloc_new W _,QT _,hl,by simp,by rw[Nat.mul_one,List.take_of_length_le (by simp)]⟩⟩,ae⟩
theorem Wm (w W0:World) (aa:Below w.heap.size w W0) (xs:List Int) (af:∀x∈xs,Z4 x) (hl:xs.length<=1000) (s:Int) (hs:Z4 s) (n g g':Nat) (hn:n=xs.length) (hg:g=W0.heap.size) (ag:g'=W0.heap.size+1) (arr:Array Value) (ae:arr=(xs.map (Value.int .i64 ·)).toArray) :
  Zi ((W0.alloc (.cells arr 3)).alloc (.cells #[.int .i64 s] 3)) w.heap.size xs (.slice (some ⟨g,0,none⟩) n n) /\
  Z0 ((W0.alloc (.cells arr 3)).alloc (.cells #[.int .i64 s] 3)) (Lt ((W0.alloc (.cells arr 3)).alloc (.cells #[.int .i64 s] 3)).heap.size) [s] (.slice (some ⟨g',0,none⟩) 1 1) /\
  Below w.heap.size w ((W0.alloc (.cells arr 3)).alloc (.cells #[.int .i64 s] 3)):=by
 have h1:Below w.heap.size w (W0.alloc (.cells arr 3)):=aa.trans ((ZO _ _).mono aa.size);refine⟨(Ru W0 _ xs af n g hn hg aa.size arr ae (by unfold maxLen;omega)).below (ZO _ _),Vz _ [s] (by simpa using hs) (by unfold Lt;simp) _ 1 rfl rfl (by simp[maxLen]) _ g' (by rw[ag];simp),h1.trans ((ZO _ _).mono h1.size)⟩
