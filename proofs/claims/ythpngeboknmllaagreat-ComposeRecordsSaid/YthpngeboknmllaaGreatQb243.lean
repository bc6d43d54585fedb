/- T -/
import Derived.Test.YthpngeboknmllaaGreatQ4f22
import Derived.Test.YthpngeboknmllaaGreatQa736
import Derived.Shelf.Abstract
set_option linter.unusedVariables false
set_option linter.unusedSimpArgs false
set_option maxHeartbeats 4000000
set_option maxRecDepth 100000
namespace Go.Proofs.YthpngeboknmllaaGreat
open Go.RowKit Go.Shelf
def Wm (w:World) (B:Nat):Prop :=
 (w.cell? ⟨B,4,none⟩=some (.int .i64 0)/\w.cell? ⟨B,5,none⟩=some (.func (.func 121) #[] #[])) /\
 (w.cell? ⟨B,7,none⟩=some (.int .i64 0)/\w.cell? ⟨B,8,none⟩=some (.func (.func 122) #[] #[])) /\
 (w.cell? ⟨B,10,none⟩=some (.int .i64 0)/\w.cell? ⟨B,11,none⟩=some (.func (.func 123) #[] #[])) /\
 (w.cell? ⟨B,13,none⟩=some (.int .i64 0)/\w.cell? ⟨B,14,none⟩=some (.func (.func 124) #[] #[])) /\
 (w.cell? ⟨B,16,none⟩=some (.int .i64 2)/\w.cell? ⟨B,17,none⟩=some (.func (.func 121) #[] #[])) /\
 (w.cell? ⟨B,19,none⟩=some (.int .i64 2)/\w.cell? ⟨B,20,none⟩=some (.func (.func 121) #[] #[])) /\
 (w.cell? ⟨B,22,none⟩=some (.int .i64 2)/\w.cell? ⟨B,23,none⟩=some (.func (.func 121) #[] #[])) /\
 (w.cell? ⟨B,25,none⟩=some (.int .i64 2)/\w.cell? ⟨B,26,none⟩=some (.func (.func 121) #[] #[])) /\
 (w.cell? ⟨B,28,none⟩=some (.int .i64 3)/\w.cell? ⟨B,29,none⟩=some (.func (.func 121) #[] #[])) /\
 (w.cell? ⟨B,31,none⟩=some (.int .i64 1)/\w.cell? ⟨B,32,none⟩=some (.func (.func 125) #[] #[])) /\
 (w.cell? ⟨B,34,none⟩=some (.int .i64 1)/\w.cell? ⟨B,35,none⟩=some (.func (.func 126) #[] #[])) /\
 (w.cell? ⟨B,37,none⟩=some (.int .i64 0)/\w.cell? ⟨B,38,none⟩=some (.func (.func 121) #[] #[]))
theorem Vv {P:Program} {f:FuncId} {args:Array Value} {W:World} {v:Value} (h:Calls P f args W fun e w'=>e=.returned v/\W=w'):Calls P f args W fun e w'=>e=.returned v/\∃n,w'=W.drewN n :=
 h.mono fun e w' ⟨h1,h2⟩=>⟨h1,0,by subst h2;rfl⟩
theorem zLo (k c:Int) (n:Nat) (h:k<1\/12<k):Zp k c n=false:=by
 unfold Zp;rw[if_neg (by omega)];split
 ·rfl
 rw[if_neg (by omega),if_neg (by omega),if_neg (by omega),if_neg (by omega),if_neg (by omega)]
theorem Tk (k c:Int) (s:ByteArray) (A:Option Addr) (n cap B g o:Nat) (w:World) (hn:n<=maxLen) (hs:s.size<=maxLen)
  (c0:w.cell? ⟨g,o,none⟩=some (.int .i64 k)) (c1:w.cell? ⟨g,o+1,none⟩=some (.string s)) (c2:w.cell? ⟨g,o+2,none⟩=some (.int .i64 c)) (c3:w.cell? ⟨g,o+3,none⟩=some (.slice A n cap))
  (hK:Wm w B) :
  Calls Tryz.prog 127 #[.pointer (some ⟨B,0,none⟩),.pointer (some ⟨g,o,none⟩)] w fun e w'=>e=.returned (.bool (YN k s&&Zp k c n))/\∃n,w'=w.drewN n:=by
 by_cases h1:k<1
 ·rw[zLo k c n (.inl h1),Bool.and_false];have d1:decide (k<1)=true:=decide_eq_true h1;clear hK;go_enter Tryz.func127,Tryz.ntmps127
  go_wp2_with fail
  go_quiet (fail)
  go_wp2_with fail
  go_ret;exact⟨rfl,_,rfl⟩
 by_cases h2:12<k
 ·rw[zLo k c n (.inr h2),Bool.and_false];have d1:decide (k<1)=false:=decide_eq_false h1;have d2:decide (12<k)=true:=decide_eq_true h2;clear hK;go_enter Tryz.func127,Tryz.ntmps127
  go_wp2_with fail
  go_quiet (fail)
  go_wp2_with fail
  go_ret;exact⟨rfl,_,rfl⟩
 have hk:k=1\/k=2\/k=3\/k=4\/k=5\/k=6\/k=7\/k=8\/k=9\/k=10\/k=11\/k=12:=by omega
 obtain⟨⟨a1,b1⟩,⟨a2,b2⟩,⟨a3,b3⟩,⟨a4,b4⟩,⟨a5,b5⟩,⟨a6,b6⟩,⟨a7,b7⟩,⟨a8,b8⟩,⟨a9,b9⟩,⟨aj,af⟩,⟨ah,ae⟩,⟨ag,aa⟩⟩:=hK;rcases hk with rfl|rfl|rfl|rfl|rfl|rfl|rfl|rfl|rfl|rfl|rfl|rfl
 ·exact own_1 c s A n cap B g o (YN 1 s) w hn c0 c1 c2 c3 a1 b1 (hid fun W=>Vv (Q8 s W))
 ·exact TT 2 122 0 (by show _/\_;omega) (hid fun n=>by unfold Zp;simp) (enters_of Tryz.func122 (by kernel_rfl) rfl) (by decide) (by decide) (by decide) (by decide) (by decide) (by decide) (by decide) c s A n cap B g o (YN 2 s) w hn c0 c1 c2 c3 a2 b2 (hid fun W=>Vv (zP8 s W hs))
 ·exact TT 3 123 0 (by show _/\_;omega) (hid fun n=>by unfold Zp;simp) (enters_of Tryz.func123 (by kernel_rfl) rfl) (by decide) (by decide) (by decide) (by decide) (by decide) (by decide) (by decide) c s A n cap B g o (YN 3 s) w hn c0 c1 c2 c3 a3 b3 (hid fun W=>zP9 s W hs)
 ·exact TT 4 124 0 (by show _/\_;omega) (hid fun n=>by unfold Zp;simp) (enters_of Tryz.func124 (by kernel_rfl) rfl) (by decide) (by decide) (by decide) (by decide) (by decide) (by decide) (by decide) c s A n cap B g o (YN 4 s) w hn c0 c1 c2 c3 a4 b4 (hid fun W=>Vv (Tn s W hs))
 ·exact TT 5 121 2 (by show _/\_;omega) (hid fun n=>by unfold Zp;simp) (enters_of Tryz.func121 (by kernel_rfl) rfl) (by decide) (by decide) (by decide) (by decide) (by decide) (by decide) (by decide) c s A n cap B g o (YN 5 s) w hn c0 c1 c2 c3 a5 b5 (hid fun W=>Vv (Q8 s W))
 ·exact TT 6 121 2 (by show _/\_;omega) (hid fun n=>by unfold Zp;simp) (enters_of Tryz.func121 (by kernel_rfl) rfl) (by decide) (by decide) (by decide) (by decide) (by decide) (by decide) (by decide) c s A n cap B g o (YN 6 s) w hn c0 c1 c2 c3 a6 b6 (hid fun W=>Vv (Q8 s W))
 ·exact TT 7 121 2 (by show _/\_;omega) (hid fun n=>by unfold Zp;simp) (enters_of Tryz.func121 (by kernel_rfl) rfl) (by decide) (by decide) (by decide) (by decide) (by decide) (by decide) (by decide) c s A n cap B g o (YN 7 s) w hn c0 c1 c2 c3 a7 b7 (hid fun W=>Vv (Q8 s W))
 ·exact TT 8 121 2 (by show _/\_;omega) (hid fun n=>by unfold Zp;simp) (enters_of Tryz.func121 (by kernel_rfl) rfl) (by decide) (by decide) (by decide) (by decide) (by decide) (by decide) (by decide) c s A n cap B g o (YN 8 s) w hn c0 c1 c2 c3 a8 b8 (hid fun W=>Vv (Q8 s W))
 ·exact TT 9 121 3 (by show _/\_;omega) (hid fun n=>by unfold Zp;simp) (enters_of Tryz.func121 (by kernel_rfl) rfl) (by decide) (by decide) (by decide) (by decide) (by decide) (by decide) (by decide) c s A n cap B g o (YN 9 s) w hn c0 c1 c2 c3 a9 b9 (hid fun W=>Vv (Q8 s W))
 ·exact TT 10 125 1 (by show _/\_;omega) (hid fun n=>by unfold Zp;simp) (enters_of Tryz.func125 (by kernel_rfl) rfl) (by decide) (by decide) (by decide) (by decide) (by decide) (by decide) (by decide) c s A n cap B g o (YN 10 s) w hn c0 c1 c2 c3 aj af (hid fun W=>Vv (zOb s W))
 ·exact TT 11 126 1 (by show _/\_;omega) (hid fun n=>by unfold Zp;simp) (enters_of Tryz.func126 (by kernel_rfl) rfl) (by decide) (by decide) (by decide) (by decide) (by decide) (by decide) (by decide) c s A n cap B g o (YN 11 s) w hn c0 c1 c2 c3 ah ae (hid fun W=>Vv (SS s W hs))
 exact Ru c s A n cap B g o (YN 12 s) w hn c0 c1 c2 c3 ag aa (hid fun W=>Vv (Q8 s W))
end Go.Proofs.YthpngeboknmllaaGreat
namespace Go.Proofs.YthpngeboknmllaaGreat
open Go.RowKit
mutual
def XH:Z9->Int->Int->Bool
 |.mk k s c ts,m,d=>decide (m+1<=1000)&&(decide (d<=24)&&((YN k s&&Zp k c ts.length)&&Yz k ts (m+1) (d+1)))
def Yz (k:Int):List Z9->Int->Int->Bool
 |[],_,_=>true
 |t::ts,m,d=>!((t.kind==1)==(k==1))&&(XH t m d&&Yz k ts (m+ZR t) d)
end
theorem zP6 (k m d:Int) {ts:List Z9} {i:Nat} (h:i<ts.length) :
  Yz k (ts.drop i) (m+(ZQ (ts.take i):Nat)) d=(!((ts[i].kind==1)==(k==1))&&(XH ts[i] (m+(ZQ (ts.take i):Nat)) d&&Yz k (ts.drop (i+1)) (m+(ZQ (ts.take (i+1)):Nat)) d)):=by
 rw[List.drop_eq_getElem_cons h,Yz,WV h,show m+((ZQ (ts.take i)+ZR ts[i]:Nat):Int)=m+(ZQ (ts.take i):Nat)+ZR ts[i] by omega]
mutual
theorem zP7:(t:Z9)->(m d:Int)->XH t m d=(Y9 t&&(decide (m+ZR t<=1000)&&decide (d+Y4 t<=25)))
 |
  .mk k s c ts,m,d=>by
  rw[XH,zP5 k ts (m+1) (d+1),Y9,ZR,Y4,Bool.eq_iff_iff]
  simp only[Bool.and_eq_true,decide_eq_true_eq]
  constructor
  ·rintro ⟨h1,h2,h3,h4,h5⟩
   refine⟨⟨h3,h4⟩,?_⟩
   rcases h5 with rfl|h5
   ·simp only[ZQ,YI];omega
   omega
  rintro ⟨⟨h3,h4⟩,h5,h6⟩
  refine⟨by omega,by omega,h3,h4,?_⟩
  rcases ts with _|⟨t,ts⟩
  ·exact .inl rfl
  exact .inr (by omega)
theorem zP5 (k:Int):(ts:List Z9)->(m d:Int)->Yz k ts m d=(XV k ts&&decide (ts=[]\/(m+ZQ ts<=1000/\d+YI ts<=25)))
 |[],m,d=>by rw[Yz,XV];simp
 |
  t::ts,m,d=>by
  rw[Yz,zP7 t m d,zP5 k ts (m+ZR t) d,UK,ZQ,YI,Bool.eq_iff_iff]
  simp only[Bool.and_eq_true,decide_eq_true_eq,reduceCtorEq,false_or]
  constructor
  ·rintro ⟨h1,⟨h2,h3,h4⟩,h5,h6⟩
   refine⟨⟨⟨h1,h2⟩,h5⟩,?_⟩
   rcases h6 with rfl|h6
   ·simp only[ZQ,YI];omega
   omega
  rintro ⟨⟨⟨h1,h2⟩,h5⟩,h3,h4⟩
  exact⟨h1,⟨h2,by omega,by omega⟩,h5,.inr (by omega)⟩
end
def V6 (w:World) (S:Nat->Prop) (g o:Nat) (t:Z9) (A:Option Addr) (cap:Nat) (rs:List Value):Prop :=
 (w.cell? ⟨g,o,none⟩=some (.int .i64 t.kind)/\w.cell? ⟨g,o+1,none⟩=some (.string t.text)/\w.cell? ⟨g,o+2,none⟩=some (.int .i64 t.cols)/\w.cell? ⟨g,o+3,none⟩=some (.slice A t.kids.length cap)) /\
  S g/\t.text.size<=maxLen/\t.kids.length<=cap/\cap<=maxLen/\Zd w S A rs/\ZG Z6 w S t.kids rs
theorem V6.below {w w':World} {B g o:Nat} {t:Z9} {A:Option Addr} {cap:Nat} {rs:List Value} (h:V6 w (Lt B) g o t A cap rs) (hb:Below B w w'):V6 w' (Lt B) g o t A cap rs:=by
 obtain⟨⟨h0,h1,h2,h3⟩,hg,h4,h5,h6,h7,h8⟩:=h;have hc:=(bcell hb).1;exact⟨⟨(hc _ _ hg).trans h0,(hc _ _ hg).trans h1,(hc _ _ hg).trans h2,(hc _ _ hg).trans h3⟩,hg,h4,h5,h6,h7.keep (Zr.of_below hb (Qi _)) (fun _ h=>h),h8.keep (Zr.of_below hb (Qi _)) (fun _ h=>h)⟩
def VK (w:World) (B:Nat) (m:Int):Prop:=Wm w B/\w.cell? ⟨B,39,none⟩=some (.int .i64 m)/\w.frozen? ⟨B,39,none⟩=false
theorem XY {w:World} {B i j:Nat} {v:Value} (h:i≠j):(w.setCell ⟨B,i,none⟩ v).cell? ⟨B,j,none⟩=w.cell? ⟨B,j,none⟩:=by
 have o:(⟨B,i,none⟩:Addr)≠⟨B,j,none⟩:=fun e=>h (by injection e)
 rw[World.cell?_setCell_other (h:=o)]
theorem VK.set {w:World} {B:Nat} {m:Int} (h:VK w B m) (m':Int):VK (w.setCell ⟨B,39,none⟩ (.int .i64 m')) B m':=by
 obtain⟨hc,h1,h2⟩:=h;refine⟨?_,World.cell?_setCell_same _ _ _ h1,by rw[World.frozen?_setCell];exact h2⟩;unfold Wm at *;simp only[XY (show (39:Nat)≠4 by decide),XY (show (39:Nat)≠5 by decide),XY (show (39:Nat)≠7 by decide),XY (show (39:Nat)≠8 by decide),XY (show (39:Nat)≠10 by decide),XY (show (39:Nat)≠11 by decide),
  XY (show (39:Nat)≠13 by decide),XY (show (39:Nat)≠14 by decide),XY (show (39:Nat)≠16 by decide),XY (show (39:Nat)≠17 by decide),XY (show (39:Nat)≠19 by decide),XY (show (39:Nat)≠20 by decide),
  XY (show (39:Nat)≠22 by decide),XY (show (39:Nat)≠23 by decide),XY (show (39:Nat)≠25 by decide),XY (show (39:Nat)≠26 by decide),XY (show (39:Nat)≠28 by decide),XY (show (39:Nat)≠29 by decide),
  XY (show (39:Nat)≠31 by decide),XY (show (39:Nat)≠32 by decide),XY (show (39:Nat)≠34 by decide),XY (show (39:Nat)≠35 by decide),XY (show (39:Nat)≠37 by decide),XY (show (39:Nat)≠38 by decide)]
 exact hc
theorem VK.drew {w:World} {B:Nat} {m:Int} (h:VK w B m) (n:Nat):VK (w.drewN n) B m:=h
def zNn (B:Nat) (w:World) (t:Z9) (m d:Int) (e:Ending) (w':World):Prop :=
 e=.returned (.bool (XH t m d))/\Below B w w'/\(XH t m d=true->VK w' B (m+ZR t))
theorem Sy (t:Z9):∀(w:World) (B g o:Nat) (A:Option Addr) (cap:Nat) (rs:List Value) (m d:Int) (_:V6 w (Lt B) g o t A cap rs) (_:VK w B m) (_:0<=m/\m<=1000) (_:0<=d/\d<=1000),
  Calls Tryz.prog 93 #[.pointer (some ⟨B,0,none⟩),.pointer (some ⟨g,o,none⟩),.int .i64 d] w (zNn B w t m d):=by
 induction t using Z9.ind with
 |h t ih =>
 obtain⟨tk,tx,tc,ts⟩:=t;intro w B g o A cap rs m d hN hC ⟨hm0,hm1⟩ ⟨hd0,hd1⟩;have aH:=hid hN;obtain⟨⟨c0,c1,c2,c3⟩,hg,aT,aY,aB,aj,af⟩:=hN;simp only[Z9.kind,Z9.text,Z9.cols,Z9.kids] at *;have aV:ts.length<=9223372036854775807:=by unfold maxLen at aB;omega
 have HS:Hid (XH (.mk tk tx tc ts) m d=(decide (m+1<=1000)&&(decide (d<=24)&&((YN tk tx&&Zp tk tc ts.length)&&Yz tk ts (m+1) (d+1))))):=by show _=_;rw[XH]
 have bg:Hid (ZR (.mk tk tx tc ts)=1+ZQ ts):=by show _=_;rw[ZR]
 have ag:Hid (Below B w (w.setCell ⟨B,39,none⟩ (.int .i64 (m+1)))):=by show Below _ _ _;exact(Qg B w).setCell (p:=⟨B,39,none⟩) (Qi _) _
 have aK:=hid (hC.set (m+1));have aS:=hC.2.1;have aZ:=hC.2.2;have aQ:=hid ih;clear hC aj af ih;by_cases h1:m+1<=1000;rotate_left
 ·have d1:decide (1000<m+1)=true:=by simp;omega
  have HF:Hid (XH (.mk tk tx tc ts) m d=false):=by show _=_;rw[HS.out,decide_eq_false h1];rfl
  go_enter Tryz.func93,Tryz.ntmps93
  go_wp2_with fail
  go_ret;refine⟨by rw[HF.out];rfl,ag.out,fun h=>?_⟩;rw[HF.out] at h;cases h
 have d1:decide (1000<m+1)=false:=by simp;omega
 by_cases h2:d<=24;rotate_left
 ·have d2:decide (24<d)=true:=by simp;omega
  have HF:Hid (XH (.mk tk tx tc ts) m d=false):=by show _=_;rw[HS.out,decide_eq_false h2];simp
  go_enter Tryz.func93,Tryz.ntmps93
  go_wp2_with fail
  go_ret;refine⟨by rw[HF.out];rfl,ag.out,fun h=>?_⟩;rw[HF.out] at h;cases h
 have d2:decide (24<d)=false:=by simp;omega
 have HO:Hid (Calls Tryz.prog 127 #[.pointer (some ⟨B,0,none⟩),.pointer (some ⟨g,o,none⟩)] (w.setCell ⟨B,39,none⟩ (.int .i64 (m+1))) fun e w'=>e=.returned (.bool (YN tk tx&&Zp tk tc ts.length))/\∃n,w'=(w.setCell ⟨B,39,none⟩ (.int .i64 (m+1))).drewN n):=by
  obtain⟨⟨q0,q1,q2,q3⟩,_⟩:=aH.out.below ag.out;exact Tk tk tc tx A ts.length cap B g o _ (by omega) aT q0 q1 q2 q3 aK.out.1
 have aF:Hid (XH (.mk tk tx tc ts) m d=((YN tk tx&&Zp tk tc ts.length)&&Yz tk ts (m+1) (d+1))):=by show _=_;rw[HS.out,decide_eq_true h1,decide_eq_true h2];rfl
 generalize (YN tk tx&&Zp tk tc ts.length)=b at *;clear HS;cases b
 ·have HF:Hid (XH (.mk tk tx tc ts) m d=false):=by show _=_;rw[aF.out];rfl
  go_enter Tryz.func93,Tryz.ntmps93
  go_wp2_with fail
  refine HO.out.mono ?_;rintro e w1 ⟨rfl,n1,rfl⟩;have ay:Hid (Below B w ((w.setCell ⟨B,39,none⟩ (.int .i64 (m+1))).drewN n1)):=ag.out.trans ⟨rfl,rfl,rfl,Qi _,fun _ _=>rfl⟩
  go_wp2_with fail
  go_ret;refine⟨by rw[HF.out];rfl,ay.out,fun h=>?_⟩;rw[HF.out] at h;cases h
 have aD:Hid (XH (.mk tk tx tc ts) m d=Yz tk ts (m+1) (d+1)):=by show _=_;rw[aF.out];rfl
 go_enter Tryz.func93,Tryz.ntmps93
 go_wp2_with fail
 refine HO.out.mono ?_;rintro e w1 ⟨rfl,n1,az⟩;have ay:Hid (Below B w w1):=by rw[az];exact ag.out.trans ⟨rfl,rfl,rfl,Qi _,fun _ _=>rfl⟩
 have bn:Hid (VK w1 B (m+1)):=by rw[az];exact aK.out.drew n1
 have aP:=(aH.out.below ay.out).1.2.2.2;simp only[Z9.kids] at aP;clear az HO aK ag c0 c1 c2 c3 aS aZ d1 d2 aF
 go_wp2_with fail
 go_loopw [35] (fun i wr=>Below B w wr/\∃(k:Nat),k<=ts.length/\i=.int .i64 k/\VK wr B (m+1+(ZQ (ts.take k):Nat))/\m+1+(ZQ (ts.take k):Nat)<=1000/\Yz tk (ts.drop k) (m+1+(ZQ (ts.take k):Nat)) (d+1)=Yz tk ts (m+1) (d+1)) (fun i _=>ts.length-(intOf i).toNat)
 case atStart=>exact⟨ay.out,0,Qj _,rfl,by simpa[ZQ] using bn.out,by simp[ZQ];omega,by simp[ZQ]⟩
 obtain⟨hb,k,hk,rfl,aM,aW,ae⟩:=hrel;have HR:=hid ae;have HB:=hid hb;have aJ:=hid aM;obtain⟨⟨c0,c1,c2,c3⟩,_,_,_,_,aj,af⟩:=aH.out.below hb;simp only[Z9.kind,Z9.text,Z9.cols,Z9.kids] at c0 c1 c2 c3 af;clear ae hb aM aP;by_cases av:k<ts.length
 ·obtain⟨g',o',A',cap',aL,rfl,aC,e0,e1,e2,e3,_,_,hts,aO,aN,ah,ak⟩:=YW aj af av;have HK:Hid (V6 wr (Lt B) g' (o'+k*4) ts[k] A' cap' aL):=⟨⟨e0,e1,e2,e3⟩,aC,hts,aO,aN,ah,ak⟩;have aA:ts[k]∈ts:=List.getElem_mem av;have HT:=hid (zP6 tk (m+1) (d+1) av);have i0:(k:Int)<(ts.length:Int):=by omega
  have HM:Hid (0<=m+1+(ZQ (ts.take k):Nat)/\m+1+(ZQ (ts.take k):Nat)<=1000):=by show _/\_;omega
  have aR:Hid (m+1+((ZQ (ts.take (k+1)):Nat):Int)=m+1+(ZQ (ts.take k):Nat)+ZR ts[k]):=by show _=_;rw[WV av];omega
  generalize aU:m+1+((ZQ (ts.take k):Nat):Int)=M at *;have ax:Hid (Calls Tryz.prog 93 #[.pointer (some ⟨B,0,none⟩),.pointer (some ⟨g',o'+k*4,none⟩),.int .i64 (d+1)] wr.drew (zNn B wr.drew ts[k] M (d+1))) :=
   aQ.out ts[k] aA wr.drew B g' (o'+k*4) A' cap' aL M (d+1) (HK.out.below ⟨rfl,rfl,rfl,Qi _,fun _ _=>rfl⟩) (aJ.out.drew 1) HM.out (by omega)
  have KW:Hid (∀W,Below B wr W->(W.cell? ⟨g,o,none⟩=some (.int .i64 tk)/\W.cell? ⟨g,o+3,none⟩=some (.slice (some ⟨g',o',none⟩) ts.length cap)/\W.cell? ⟨g',o'+k*4,none⟩=some (.int .i64 ts[k].kind))):=by
   intro W hW;have h:=(bcell hW).1;exact⟨(h _ _ hg).trans c0,(h _ _ hg).trans c3,(h _ _ aC).trans e0⟩
  have aG:Hid (XH ts[k] M (d+1)=true->M+ZR ts[k]<=1000):=fun h=>by
   rw[zP7] at h;simp only[Bool.and_eq_true,decide_eq_true_eq] at h;exact h.2.1
  have hgB:g<B:=hg;have aX:g'<B:=aC;clear aj af ah ak aO aN hts aW aQ aU c1 c2 e1 e2 e3;cases hq1:(ts[k].kind==1)<;>cases hq2:(tk==1)
  case false.false|true.true =>
   rw[hq1,hq2] at HT;have HF:Hid (XH (.mk tk tx tc ts) m d=false):=by show _=_;rw[aD.out,<-HR.out,HT.out];rfl
   go_wp2_with fail
   go_quiet (fail)
   go_wp2_with fail
   go_ret;refine⟨by rw[HF.out];rfl,by first|exact HB.out|exact HB.out.trans ⟨rfl,rfl,rfl,Qi _,fun _ _=>rfl⟩,fun h=>?_⟩;rw[HF.out] at h;cases h
  all_goals
   rw[hq1,hq2] at HT;generalize aa:XH ts[k] M (d+1)=b3 at *;unfold zNn at ax;rw[aa] at ax;clear aa;cases b3
   ·have HF:Hid (XH (.mk tk tx tc ts) m d=false):=by show _=_;rw[aD.out,<-HR.out,HT.out];rfl
    have wd:IntKind.i64.wrap (d+1)=d+1:=IntWalk.i64_in _ (by omega)
    go_wp2_with fail
    go_region_held3 (fun w'=>w'.cell? ⟨g,o,none⟩=some (.int .i64 tk)/\w'.cell? ⟨g,o+3,none⟩=some (.slice (some ⟨g',o',none⟩) ts.length cap)/\w'.cell? ⟨g',o'+k*4,none⟩=some (.int .i64 ts[k].kind)) (go_keep) (first
     |(go_at_call 93;with_reducible refine ax.out.mono ?_;rintro e w3 ⟨rfl,aa,_⟩;obtain⟨p1,p2,p3⟩:=KW.out w3 (RU aa);have HP:=hid (HB.out.trans (RU aa));clear aa))
    clear wd
    go_wp2_with fail
    go_ret;refine⟨by rw[HF.out];rfl,HP.out,fun h=>?_⟩;rw[HF.out] at h;cases h
   have HF:Hid (Yz tk (ts.drop (k+1)) (m+1+(ZQ (ts.take (k+1)):Nat)) (d+1)=Yz tk ts (m+1) (d+1)):=by show _=_;rw[<-HR.out,HT.out];rfl
   have wd:IntKind.i64.wrap (d+1)=d+1:=IntWalk.i64_in _ (by omega)
   go_wp2_with fail
   go_region_held3 (fun w'=>w'.cell? ⟨g,o,none⟩=some (.int .i64 tk)/\w'.cell? ⟨g,o+3,none⟩=some (.slice (some ⟨g',o',none⟩) ts.length cap)/\w'.cell? ⟨g',o'+k*4,none⟩=some (.int .i64 ts[k].kind)) (go_keep) (first
    |(go_at_call 93;with_reducible refine ax.out.mono ?_;rintro e w3 ⟨rfl,aa,au⟩;obtain⟨p1,p2,p3⟩:=KW.out w3 (RU aa);have HP:=hid (HB.out.trans (RU aa));have aI:=hid (au trivial);clear aa au))
   clear wd
   go_wp2_with fail
   go_roundw
   case rel=>exact⟨HP.out,k+1,by omega,by go_num,by rw[aR.out];exact aI.out,by rw[aR.out];exact aG.out trivial,HF.out⟩
   case measure=>simp[intOf];omega
 have HT:Hid (ts.take k=ts):=List.take_of_length_le (by omega);have HF:Hid (XH (.mk tk tx tc ts) m d=true):=by show _=_;rw[aD.out,<-HR.out,List.drop_of_length_le (by omega),Yz]
 rw[HT.out] at aJ;clear aj af c0 c1 c2 c3
 go_wp2_with fail
 go_ret;refine⟨by rw[HF.out];rfl,HB.out,fun _=>?_⟩;rw[bg.out,show m+((1+ZQ ts:Nat):Int)=m+1+(ZQ ts:Nat) by omega];exact aJ.out
theorem Z8.drew {α:Type} {E:YA α} {w:World} {xs:List α} {v:Value} (h:Z8 E w (Lt w.heap.size) xs v):Z8 E w.drew (Lt w.drew.heap.size) xs v:=h.keep (fun _ _=>rfl) (fun _ h=>h)
theorem zU2 (kind:Int) (row:List Int) (n:Int) (nodes:List Z9) (old text:ByteArray) (k:Nat) (index slot r:Int) (rest:List Int) (Ar An As:Option Addr) (lr cr ln cn cs:Nat) (w:World)
  (hp:(⟨⟨kind,row,index,n,nodes,slot,old,text⟩,k,index,true,slot,r::rest⟩:Xv).Ok) (hs:Z0 w (Lt w.heap.size) (r::rest) (.slice As (rest.length+1) cs)) :
  Calls Tryz.prog 132 #[.agg #[.int .i64 kind,.slice Ar lr cr,.int .i64 index,.int .i64 n,.slice An ln cn,.int .i64 slot,.string old,.string text,.int .i64 k,.int .i64 index,.bool true,.int .i64 slot,.slice As (rest.length+1) cs]] w
   (zSd w ((index+r)::rest,false)):=by
 have aC:rest.length+1<=100000:=hp.len;obtain⟨aI,aH⟩:Bd 1099511627776 index:=hp.at_;obtain⟨hr1,hr2⟩:=hp.rest r (by simp);obtain⟨A1,aA,hcut⟩:=TM ZA Tryz.underlying25 WO As (rest.length+1) cs 1 1 rfl (by omega);have aa:=hcut _ _ _ hs;simp only[List.drop_succ_cons,List.drop_zero,Nat.add_sub_cancel] at aa aA;have aL:=hid aa;obtain⟨A,cap,rs,e,hc1,aG,av,ax⟩:=hs;injection e with e1 e2 e3
 subst e1 e3;obtain⟨g,o,rfl,hg,hi,c0⟩:=X5 av ax (k:=0) (by simp);simp only[List.getElem_cons_zero,Nat.add_zero] at c0;have aF:g<w.heap.size:=hg;have aj:=Yn (x:=index+r) (by omega) (by omega);have i1:(0:Int)<((rest.length+1:Nat):Int):=by omega
 have aJ:=hid aj;clear av ax hc1 aG e2 hcut aa hp hi;go_enter Tryz.func132,Tryz.ntmps132
 go_wp2_with fail
 go_quiet (fail)
 go_wp2_with fail
 obtain⟨W,hW⟩:∃W,W=(w.alloc (.cells #[.int .i64 kind,.slice Ar lr cr,.int .i64 index,.int .i64 n,.slice An ln cn,.int .i64 slot,.string old,.string text,.int .i64 k,.int .i64 index,.bool true,.int .i64 slot,.slice (some ⟨g,o,none⟩) (rest.length+1) cs] 127)).drewN nq:=⟨_,rfl⟩;have ag:Below w.heap.size w W:=by rw[hW];exact YP (Zx _ _) _
 have aB:W.heap.size=w.heap.size+1:=by rw[hW];simp[World.drewN]
 have cW:W.cell? ⟨w.heap.size,12,none⟩=some (.slice (some ⟨g,o,none⟩) (rest.length+1) cs):=by rw[hW];exact World.cell?_alloc_new _ _ _ _
 have dW:W.cell? ⟨g,o,none⟩=some (.int .i64 r):=((bcell ag).1 _ _ aF).trans c0;have aK:=hid (aL.out.below ag ag.size);rw[<-hW];have hw1:IntKind.i64.wrap (index+r)=index+r:=IntWalk.i64_in _ (by omega);have az:w.heap.size<W.heap.size:=by omega
 have aD:g<W.heap.size:=by omega
 have HB:=hid ag;clear hW c0 aB ag;have HM:=hid (UT W [index+r] (by simpa using aJ.out) (S:=Lt (W.alloc (.cells #[.int .i64 (index+r)] 3)).heap.size) (by unfold Lt;simp) #[.int .i64 (index+r)] 1 rfl rfl (by simp[maxLen]) 3 W.heap.size rfl);have HC:=hid (Z8.drew (Vk HM.out (aK.out.alloc (.cells #[.int .i64 (index+r)] 3)) 25 rfl (fun _ h=>h) (W.heap.size+1) (by simp)));have HF:Hid ([[index+r],rest].flatten.length<=1000000):=by show _<=_;simp;omega
 obtain⟨W3,au⟩:∃W3,W3=((W.alloc (.cells #[.int .i64 (index+r)] 3)).alloc (.cells #[.slice (some ⟨W.heap.size,0,none⟩) 1 1,.slice A1 rest.length (cs-1)] 25)).drew:=⟨_,rfl⟩;have af:Below W.heap.size W W3:=by rw[au];exact((Zx _ _).trans ((Zx _ _).mono (by simp))).drew
 have ah:Hid (∀w1,Below W3.heap.size W3 w1->w1.cell? ⟨w.heap.size,12,none⟩=some (.slice (some ⟨g,o,none⟩) (rest.length+1) cs)/\w1.cell? ⟨g,o,none⟩=some (.int .i64 r)) :=
  fun w1 h=>⟨((bcell ((af.mono (Qi _)).trans (h.mono af.size))).1 _ _ az).trans cW,((bcell ((af.mono (Qi _)).trans (h.mono af.size))).1 _ _ aD).trans dW⟩
 have ay:=hid af;rw[au] at ah ay;clear af au W3
 go_region_held3 (fun w'=>w'.cell? ⟨w.heap.size,12,none⟩=some (.slice (some ⟨g,o,none⟩) (rest.length+1) cs)/\w'.cell? ⟨g,o,none⟩=some (.int .i64 r)) (go_keep) (first|(go_at_call 87;refine(Qq [[index+r],rest] _ _ HC.out HF.out).mono ?_;rintro e w1 ⟨v1,rfl,ae,ak⟩;obtain⟨q1,q2⟩:=ah.out w1 ak))
 have HO:=hid ae;have aM:=hid ak;clear ae ak
 go_wp2_with fail
 go_ret2
 refine⟨_,rfl,by have h:=HO.out.ints (S:=Lt w1.heap.size) (fun _ _ h=>h);simpa using h,?_⟩;have h2:=ay.out.mono HB.out.size;exact HB.out.trans (h2.trans (aM.out.mono (HB.out.trans h2).size))
