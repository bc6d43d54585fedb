/- T -/
import Derived.Test.YthpngeboknmllaaGreatQ83e3
set_option linter.unusedVariables false
set_option linter.unusedSimpArgs false
set_option maxHeartbeats 4000000
set_option maxRecDepth 100000
namespace Go.Proofs.YthpngeboknmllaaGreat
open Go.RowKit
mutual
def XJ:Z9->Int->Int->Bool
 |.mk k s c ts,m,d=>decide (m+1<=1000)&&(decide (d<=24)&&((YT k s&&Zw k c ts.length)&&YK k ts (m+1) (d+1)))
def YK (k:Int):List Z9->Int->Int->Bool
 |[],_,_=>true
 |t::ts,m,d=>!((t.kind==1)==(k==1))&&(XJ t m d&&YK k ts (m+ZW t) d)
end
theorem zP6 (k m d:Int) {ts:List Z9} {i:Nat} (h:i<ts.length) :
  YK k (ts.drop i) (m+(ZT (ts.take i):Nat)) d=(!((ts[i].kind==1)==(k==1))&&(XJ ts[i] (m+(ZT (ts.take i):Nat)) d&&YK k (ts.drop (i+1)) (m+(ZT (ts.take (i+1)):Nat)) d)):=by
 rw[List.drop_eq_getElem_cons h,YK,WV h,show m+((ZT (ts.take i)+ZW ts[i]:Nat):Int)=m+(ZT (ts.take i):Nat)+ZW ts[i] by omega]
mutual
theorem zP7:(t:Z9)->(m d:Int)->XJ t m d=(Zd t&&(decide (m+ZW t<=1000)&&decide (d+Y8 t<=25)))
 |
  .mk k s c ts,m,d=>by
  rw[XJ,zP5 k ts (m+1) (d+1),Zd,ZW,Y8,Bool.eq_iff_iff]
  simp only[Bool.and_eq_true,decide_eq_true_eq]
  constructor
  ·rintro ⟨h1,h2,h3,h4,h5⟩
   refine⟨⟨h3,h4⟩,?_⟩
   rcases h5 with rfl|h5
   ·simp only[ZT,YQ];omega
   omega
  rintro ⟨⟨h3,h4⟩,h5,h6⟩
  refine⟨by omega,by omega,h3,h4,?_⟩
  rcases ts with _|⟨t,ts⟩
  ·exact .inl rfl
  exact .inr (by omega)
theorem zP5 (k:Int):(ts:List Z9)->(m d:Int)->YK k ts m d=(XX k ts&&decide (ts=[]\/(m+ZT ts<=1000/\d+YQ ts<=25)))
 |[],m,d=>by rw[YK,XX];simp
 |
  t::ts,m,d=>by
  rw[YK,zP7 t m d,zP5 k ts (m+ZW t) d,Vu,ZT,YQ,Bool.eq_iff_iff]
  simp only[Bool.and_eq_true,decide_eq_true_eq,reduceCtorEq,false_or]
  constructor
  ·rintro ⟨h1,⟨h2,h3,h4⟩,h5,h6⟩
   refine⟨⟨⟨h1,h2⟩,h5⟩,?_⟩
   rcases h6 with rfl|h6
   ·simp only[ZT,YQ];omega
   omega
  rintro ⟨⟨⟨h1,h2⟩,h5⟩,h3,h4⟩
  exact⟨h1,⟨h2,by omega,by omega⟩,h5,.inr (by omega)⟩
end
def Ww (w:World) (S:Nat->Prop) (g o:Nat) (t:Z9) (A:Option Addr) (cap:Nat) (rs:List Value):Prop :=
 (w.cell? ⟨g,o,none⟩=some (.int .i64 t.kind)/\w.cell? ⟨g,o+1,none⟩=some (.string t.text)/\w.cell? ⟨g,o+2,none⟩=some (.int .i64 t.cols)/\w.cell? ⟨g,o+3,none⟩=some (.slice A t.kids.length cap)) /\
  S g/\t.text.size<=maxLen/\t.kids.length<=cap/\cap<=maxLen/\Zl w S A rs/\ZK Z7 w S t.kids rs
theorem Ww.below {w w':World} {B g o:Nat} {t:Z9} {A:Option Addr} {cap:Nat} {rs:List Value} (h:Ww w (Lt B) g o t A cap rs) (hb:Below B w w'):Ww w' (Lt B) g o t A cap rs:=by
 obtain⟨⟨h0,h1,h2,h3⟩,hg,h4,h5,h6,h7,h8⟩:=h;have hc:=(bcell hb).1;exact⟨⟨(hc _ _ hg).trans h0,(hc _ _ hg).trans h1,(hc _ _ hg).trans h2,(hc _ _ hg).trans h3⟩,hg,h4,h5,h6,h7.keep (Zy.of_below hb (QT _)) (fun _ h=>h),h8.keep (Zy.of_below hb (QT _)) (fun _ h=>h)⟩
def Wj (w:World) (B:Nat) (m:Int):Prop:=WC w B/\w.cell? ⟨B,39,none⟩=some (.int .i64 m)/\w.frozen? ⟨B,39,none⟩=false
theorem X3 {w:World} {B i j:Nat} {v:Value} (h:i≠j):(w.setCell ⟨B,i,none⟩ v).cell? ⟨B,j,none⟩=w.cell? ⟨B,j,none⟩:=by
 have o:(⟨B,i,none⟩:Addr)≠⟨B,j,none⟩:=fun e=>h (by injection e)
 rw[World.cell?_setCell_other (h:=o)]
theorem Wj.set {w:World} {B:Nat} {m:Int} (h:Wj w B m) (m':Int):Wj (w.setCell ⟨B,39,none⟩ (.int .i64 m')) B m':=by
 obtain⟨hc,h1,h2⟩:=h;refine⟨?_,World.cell?_setCell_same _ _ _ h1,by rw[World.frozen?_setCell];exact h2⟩;unfold WC at *;simp only[X3 (show (39:Nat)≠4 by decide),X3 (show (39:Nat)≠5 by decide),X3 (show (39:Nat)≠7 by decide),X3 (show (39:Nat)≠8 by decide),X3 (show (39:Nat)≠10 by decide),X3 (show (39:Nat)≠11 by decide),
  X3 (show (39:Nat)≠13 by decide),X3 (show (39:Nat)≠14 by decide),X3 (show (39:Nat)≠16 by decide),X3 (show (39:Nat)≠17 by decide),X3 (show (39:Nat)≠19 by decide),X3 (show (39:Nat)≠20 by decide),
  X3 (show (39:Nat)≠22 by decide),X3 (show (39:Nat)≠23 by decide),X3 (show (39:Nat)≠25 by decide),X3 (show (39:Nat)≠26 by decide),X3 (show (39:Nat)≠28 by decide),X3 (show (39:Nat)≠29 by decide),
  X3 (show (39:Nat)≠31 by decide),X3 (show (39:Nat)≠32 by decide),X3 (show (39:Nat)≠34 by decide),X3 (show (39:Nat)≠35 by decide),X3 (show (39:Nat)≠37 by decide),X3 (show (39:Nat)≠38 by decide)]
 exact hc
theorem Wj.drew {w:World} {B:Nat} {m:Int} (h:Wj w B m) (n:Nat):Wj (w.drewN n) B m:=h
def zNn (B:Nat) (w:World) (t:Z9) (m d:Int) (e:Ending) (w':World):Prop :=
 e=.returned (.bool (XJ t m d))/\Below B w w'/\(XJ t m d=true->Wj w' B (m+ZW t))
theorem TW (t:Z9):∀(w:World) (B g o:Nat) (A:Option Addr) (cap:Nat) (rs:List Value) (m d:Int) (_:Ww w (Lt B) g o t A cap rs) (_:Wj w B m) (_:0<=m/\m<=1000) (_:0<=d/\d<=1000),
  Calls Tryz.prog 93 #[.pointer (some ⟨B,0,none⟩),.pointer (some ⟨g,o,none⟩),.int .i64 d] w (zNn B w t m d):=by
 induction t using Z9.ind with
 |h t ih =>
 obtain⟨tk,tx,tc,ts⟩:=t;intro w B g o A cap rs m d hN hC ⟨hm0,hm1⟩ ⟨hd0,hd1⟩;have aG:=hid hN;obtain⟨⟨c0,c1,c2,c3⟩,hg,aS,aX,aA,ai,af⟩:=hN;simp only[Z9.kind,Z9.text,Z9.cols,Z9.kids] at *;have aU:ts.length<=9223372036854775807:=by unfold maxLen at aA;omega
 have HS:Hid (XJ (.mk tk tx tc ts) m d=(decide (m+1<=1000)&&(decide (d<=24)&&((YT tk tx&&Zw tk tc ts.length)&&YK tk ts (m+1) (d+1))))):=by show _=_;rw[XJ]
 have aZ:Hid (ZW (.mk tk tx tc ts)=1+ZT ts):=by show _=_;rw[ZW]
 have ag:Hid (Below B w (w.setCell ⟨B,39,none⟩ (.int .i64 (m+1)))):=by show Below _ _ _;exact(QQ B w).setCell (p:=⟨B,39,none⟩) (QT _) _
 have aJ:=hid (hC.set (m+1));have aR:=hC.2.1;have aY:=hC.2.2;have aP:=hid ih;clear hC ai af ih;by_cases h1:m+1<=1000;rotate_left
 ·have d1:decide (1000<m+1)=true:=by simp;omega
  have HF:Hid (XJ (.mk tk tx tc ts) m d=false):=by show _=_;rw[HS.out,decide_eq_false h1];rfl
  go_enter Tryz.func93,Tryz.ntmps93
  go_wp2_with fail
  go_ret;refine⟨by rw[HF.out];rfl,ag.out,fun h=>?_⟩;rw[HF.out] at h;cases h
 have d1:decide (1000<m+1)=false:=by simp;omega
 by_cases h2:d<=24;rotate_left
 ·have d2:decide (24<d)=true:=by simp;omega
  have HF:Hid (XJ (.mk tk tx tc ts) m d=false):=by show _=_;rw[HS.out,decide_eq_false h2];simp
  go_enter Tryz.func93,Tryz.ntmps93
  go_wp2_with fail
  go_ret;refine⟨by rw[HF.out];rfl,ag.out,fun h=>?_⟩;rw[HF.out] at h;cases h
 have d2:decide (24<d)=false:=by simp;omega
 have HO:Hid (Calls Tryz.prog 127 #[.pointer (some ⟨B,0,none⟩),.pointer (some ⟨g,o,none⟩)] (w.setCell ⟨B,39,none⟩ (.int .i64 (m+1))) fun e w'=>e=.returned (.bool (YT tk tx&&Zw tk tc ts.length))/\∃n,w'=(w.setCell ⟨B,39,none⟩ (.int .i64 (m+1))).drewN n):=by
  obtain⟨⟨q0,q1,q2,q3⟩,_⟩:=aG.out.below ag.out;exact Uo tk tc tx A ts.length cap B g o _ (by omega) aS q0 q1 q2 q3 aJ.out.1
 have aD:Hid (XJ (.mk tk tx tc ts) m d=((YT tk tx&&Zw tk tc ts.length)&&YK tk ts (m+1) (d+1))):=by show _=_;rw[HS.out,decide_eq_true h1,decide_eq_true h2];rfl
 generalize (YT tk tx&&Zw tk tc ts.length)=b at *;clear HS;cases b
 ·have HF:Hid (XJ (.mk tk tx tc ts) m d=false):=by show _=_;rw[aD.out];rfl
  go_enter Tryz.func93,Tryz.ntmps93
  go_wp2_with fail
  refine HO.out.mono ?_;rintro e w1 ⟨rfl,n1,rfl⟩;have ax:Hid (Below B w ((w.setCell ⟨B,39,none⟩ (.int .i64 (m+1))).drewN n1)):=ag.out.trans ⟨rfl,rfl,rfl,QT _,fun _ _=>rfl⟩
  go_wp2_with fail
  go_ret;refine⟨by rw[HF.out];rfl,ax.out,fun h=>?_⟩;rw[HF.out] at h;cases h
 have aC:Hid (XJ (.mk tk tx tc ts) m d=YK tk ts (m+1) (d+1)):=by show _=_;rw[aD.out];rfl
 go_enter Tryz.func93,Tryz.ntmps93
 go_wp2_with fail
 refine HO.out.mono ?_;rintro e w1 ⟨rfl,n1,ay⟩;have ax:Hid (Below B w w1):=by rw[ay];exact ag.out.trans ⟨rfl,rfl,rfl,QT _,fun _ _=>rfl⟩
 have bg:Hid (Wj w1 B (m+1)):=by rw[ay];exact aJ.out.drew n1
 have aO:=(aG.out.below ax.out).1.2.2.2;simp only[Z9.kids] at aO;clear ay HO aJ ag c0 c1 c2 c3 aR aY d1 d2 aD
 go_wp2_with fail
 go_loopw [35] (fun i wr=>Below B w wr/\∃(k:Nat),k<=ts.length/\i=.int .i64 k/\Wj wr B (m+1+(ZT (ts.take k):Nat))/\m+1+(ZT (ts.take k):Nat)<=1000/\YK tk (ts.drop k) (m+1+(ZT (ts.take k):Nat)) (d+1)=YK tk ts (m+1) (d+1)) (fun i _=>ts.length-(intOf i).toNat)
 case atStart=>exact⟨ax.out,0,QU _,rfl,by simpa[ZT] using bg.out,by simp[ZT];omega,by simp[ZT]⟩
 obtain⟨hb,k,hk,rfl,aL,aV,ae⟩:=hrel;have HR:=hid ae;have HB:=hid hb;have aI:=hid aL;obtain⟨⟨c0,c1,c2,c3⟩,_,_,_,_,ai,af⟩:=aG.out.below hb;simp only[Z9.kind,Z9.text,Z9.cols,Z9.kids] at c0 c1 c2 c3 af;clear ae hb aL aO;by_cases au:k<ts.length
 ·obtain⟨g',o',A',cap',aK,rfl,aB,e0,e1,e2,e3,_,_,hts,aN,aM,ah,aj⟩:=Y5 ai af au;have HK:Hid (Ww wr (Lt B) g' (o'+k*4) ts[k] A' cap' aK):=⟨⟨e0,e1,e2,e3⟩,aB,hts,aN,aM,ah,aj⟩;have az:ts[k]∈ts:=List.getElem_mem au;have HT:=hid (zP6 tk (m+1) (d+1) au);have i0:(k:Int)<(ts.length:Int):=by omega
  have HM:Hid (0<=m+1+(ZT (ts.take k):Nat)/\m+1+(ZT (ts.take k):Nat)<=1000):=by show _/\_;omega
  have aQ:Hid (m+1+((ZT (ts.take (k+1)):Nat):Int)=m+1+(ZT (ts.take k):Nat)+ZW ts[k]):=by show _=_;rw[WV au];omega
  generalize aT:m+1+((ZT (ts.take k):Nat):Int)=M at *;have av:Hid (Calls Tryz.prog 93 #[.pointer (some ⟨B,0,none⟩),.pointer (some ⟨g',o'+k*4,none⟩),.int .i64 (d+1)] wr.drew (zNn B wr.drew ts[k] M (d+1))) :=
   aP.out ts[k] az wr.drew B g' (o'+k*4) A' cap' aK M (d+1) (HK.out.below ⟨rfl,rfl,rfl,QT _,fun _ _=>rfl⟩) (aI.out.drew 1) HM.out (by omega)
  have KW:Hid (∀W,Below B wr W->(W.cell? ⟨g,o,none⟩=some (.int .i64 tk)/\W.cell? ⟨g,o+3,none⟩=some (.slice (some ⟨g',o',none⟩) ts.length cap)/\W.cell? ⟨g',o'+k*4,none⟩=some (.int .i64 ts[k].kind))):=by
   intro W hW;have h:=(bcell hW).1;exact⟨(h _ _ hg).trans c0,(h _ _ hg).trans c3,(h _ _ aB).trans e0⟩
  have aF:Hid (XJ ts[k] M (d+1)=true->M+ZW ts[k]<=1000):=fun h=>by
   rw[zP7] at h;simp only[Bool.and_eq_true,decide_eq_true_eq] at h;exact h.2.1
  have hgB:g<B:=hg;have aW:g'<B:=aB;clear ai af ah aj aN aM hts aV aP aT c1 c2 e1 e2 e3;cases hq1:(ts[k].kind==1)<;>cases hq2:(tk==1)
  case false.false|true.true =>
   rw[hq1,hq2] at HT;have HF:Hid (XJ (.mk tk tx tc ts) m d=false):=by show _=_;rw[aC.out,<-HR.out,HT.out];rfl
   go_wp2_with fail
   go_quiet (fail)
   go_wp2_with fail
   go_ret;refine⟨by rw[HF.out];rfl,by first|exact HB.out|exact HB.out.trans ⟨rfl,rfl,rfl,QT _,fun _ _=>rfl⟩,fun h=>?_⟩;rw[HF.out] at h;cases h
  all_goals
   rw[hq1,hq2] at HT;generalize aa:XJ ts[k] M (d+1)=b3 at *;unfold zNn at av;rw[aa] at av;clear aa;cases b3
   ·have HF:Hid (XJ (.mk tk tx tc ts) m d=false):=by show _=_;rw[aC.out,<-HR.out,HT.out];rfl
    have wd:IntKind.i64.wrap (d+1)=d+1:=IntWalk.i64_in _ (by omega)
    go_wp2_with fail
    go_region_held3 (fun w'=>w'.cell? ⟨g,o,none⟩=some (.int .i64 tk)/\w'.cell? ⟨g,o+3,none⟩=some (.slice (some ⟨g',o',none⟩) ts.length cap)/\w'.cell? ⟨g',o'+k*4,none⟩=some (.int .i64 ts[k].kind)) (go_keep) (first
     |(go_at_call 93;with_reducible refine av.out.mono ?_;rintro e w3 ⟨rfl,aa,_⟩;obtain⟨p1,p2,p3⟩:=KW.out w3 (Tx aa);have HP:=hid (HB.out.trans (Tx aa));clear aa))
    clear wd
    go_wp2_with fail
    go_ret;refine⟨by rw[HF.out];rfl,HP.out,fun h=>?_⟩;rw[HF.out] at h;cases h
   have HF:Hid (YK tk (ts.drop (k+1)) (m+1+(ZT (ts.take (k+1)):Nat)) (d+1)=YK tk ts (m+1) (d+1)):=by show _=_;rw[<-HR.out,HT.out];rfl
   have wd:IntKind.i64.wrap (d+1)=d+1:=IntWalk.i64_in _ (by omega)
   go_wp2_with fail
   go_region_held3 (fun w'=>w'.cell? ⟨g,o,none⟩=some (.int .i64 tk)/\w'.cell? ⟨g,o+3,none⟩=some (.slice (some ⟨g',o',none⟩) ts.length cap)/\w'.cell? ⟨g',o'+k*4,none⟩=some (.int .i64 ts[k].kind)) (go_keep) (first
    |(go_at_call 93;with_reducible refine av.out.mono ?_;rintro e w3 ⟨rfl,aa,ak⟩;obtain⟨p1,p2,p3⟩:=KW.out w3 (Tx aa);have HP:=hid (HB.out.trans (Tx aa));have aH:=hid (ak trivial);clear aa ak))
   clear wd
   go_wp2_with fail
   go_roundw
   case rel=>exact⟨HP.out,k+1,by omega,by go_num,by rw[aQ.out];exact aH.out,by rw[aQ.out];exact aF.out trivial,HF.out⟩
   case measure=>simp[intOf];omega
 have HT:Hid (ts.take k=ts):=List.take_of_length_le (by omega);have HF:Hid (XJ (.mk tk tx tc ts) m d=true):=by show _=_;rw[aC.out,<-HR.out,List.drop_of_length_le (by omega),YK]
 rw[HT.out] at aI;clear ai af c0 c1 c2 c3
 go_wp2_with fail
 go_ret;refine⟨by rw[HF.out];rfl,HB.out,fun _=>?_⟩;rw[aZ.out,show m+((1+ZT ts:Nat):Int)=m+1+(ZT ts:Nat) by omega];exact aI.out
