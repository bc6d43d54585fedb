/- T -/
import Derived.Test.YthpngeboknmllaaGreatQ3bf0
set_option linter.unusedVariables false
set_option linter.unusedSimpArgs false
set_option maxHeartbeats 4000000
set_option maxRecDepth 100000
namespace Go.Proofs.YthpngeboknmllaaGreat
open Go.RowKit
def QX (w:World) (xss:List (List Int)) (e:Ending) (w':World):Prop:=∃v,e=.returned v/\Yk w' w.heap.size xss v/\Below w.heap.size w w'
theorem zH6 (path:List Int) {ts:List Z9} {j:Nat} (h:j<ts.length):Yl path j (ts.drop j)=(path++[(j:Int)])::(XL path j 0 ts[j].kids++Yl path (j+1) (ts.drop (j+1))):=by
 rw[List.drop_eq_getElem_cons h,zFr]
theorem zHq (path:List Int) (j:Nat) {us:List Z9} {k:Nat} (h:k<us.length):XL path j k (us.drop k)=Zh (path++[(j:Int),(k:Int)]) us[k]++XL path j (k+1) (us.drop (k+1)):=by
 rw[List.drop_eq_getElem_cons h,XL]
theorem zKl {w:World} {S:Nat->Prop} {ts:List Z9} {A:Option Addr} {n cap:Nat} (h:Z8 Z7 w S ts (.slice A n cap)) {k:Nat} (hk:k<ts.length) :
  ∃
   g o A' cap',A=some ⟨g,o,none⟩/\S g/\(w.cell? ⟨g,o+k*4,none⟩=some (.int .i64 ts[k].kind)/\w.cell? ⟨g,o+k*4+1,none⟩=some (.string ts[k].text) /\
   w.cell? ⟨g,o+k*4+2,none⟩=some (.int .i64 ts[k].cols)/\w.cell? ⟨g,o+k*4+3,none⟩=some (.slice A' ts[k].kids.length cap'))/\ts[k].text.size<=maxLen/\ts[k].kids.length<=maxLen/\Z8 Z7 w S ts[k].kids (.slice A' ts[k].kids.length cap'):=by
 obtain⟨_,_,rs,hq,_,_,h7,h8⟩:=h;cases hq;obtain⟨g,o,A',cap',aa,hA,hg,e0,e1,e2,e3,_,_,ae,ai,ah,af,ag⟩:=Y5 h7 h8 hk;exact⟨g,o,A',cap',hA,hg,⟨e0,e1,e2,e3⟩,ae,by omega,A',cap',aa,rfl,ai,ah,af,ag⟩
theorem U2 (t:Z9):∀(path:List Int) (A Ap:Option Addr) (cap cp:Nat) (w:World) (_:Z8 Z7 w (Lt w.heap.size) t.kids (.slice A t.kids.length cap)) (_:Z0 w (Lt w.heap.size) path (.slice Ap path.length cp)) (_:path.length+ZW t<=1000000),
  Calls Tryz.prog 106 #[.agg #[.int .i64 t.kind,.string t.text,.int .i64 t.cols,.slice A t.kids.length cap],.slice Ap path.length cp] w (QX w (Zh path t)):=by
 induction t using Z9.ind' with
 |h t ih =>
 intro path A Ap cap cp w hv hp bn;have aQ:(Yl path 0 t.kids).length<=2000000:=by
  rw[<-zKs,zHl];have:=zKp t;omega
 have HE:Hid (Zh path t=Yl path 0 t.kids):=zKs path t;have dh:=Yz t;have bI:Hid (∀(j k:Nat) (hj:j<t.kids.length) (hk:k<t.kids[j].kids.length) (A1 A2:Option Addr) (c1 c2:Nat) (W:World),Z8 Z7 W (Lt W.heap.size) t.kids[j].kids[k].kids (.slice A1 t.kids[j].kids[k].kids.length c1)->Z0 W (Lt W.heap.size) (path++[(j:Int),(k:Int)]) (.slice A2 (path.length+2) c2) ->
   Calls Tryz.prog 106 #[.agg #[.int .i64 t.kids[j].kids[k].kind,.string t.kids[j].kids[k].text,.int .i64 t.kids[j].kids[k].cols,.slice A1 t.kids[j].kids[k].kids.length c1],.slice A2 (path.length+2) c2] W (QX W (Zh (path++[(j:Int),(k:Int)]) t.kids[j].kids[k]))):=by
  intro j k hj hk A1 A2 c1 c2 W h1 h2;have hl:(path++[(j:Int),(k:Int)]).length=path.length+2:=by simp
  have hc1:=zDv hj;have hc2:=zDv hk;rw[<-hl] at h2 ⊢;exact ih _ (List.getElem_mem hj) _ (List.getElem_mem hk) _ _ _ _ _ _ h1 h2 (by rw[hl];omega)
 rw[HE.out];have hpl:path.length<=1000000:=by omega
 have bN:t.kids.length<=1000000:=by omega
 clear ih HE bn dh;obtain⟨tk,tx,tc,ts⟩:=t;have bI:Hid (∀(j k:Nat) (hj:j<ts.length) (hk:k<ts[j].kids.length) (A1 A2:Option Addr) (c1 c2:Nat) (W:World),Z8 Z7 W (Lt W.heap.size) ts[j].kids[k].kids (.slice A1 ts[j].kids[k].kids.length c1)->Z0 W (Lt W.heap.size) (path++[(j:Int),(k:Int)]) (.slice A2 (path.length+2) c2) ->
   Calls Tryz.prog 106 #[.agg #[.int .i64 ts[j].kids[k].kind,.string ts[j].kids[k].text,.int .i64 ts[j].kids[k].cols,.slice A1 ts[j].kids[k].kids.length c1],.slice A2 (path.length+2) c2] W (QX W (Zh (path++[(j:Int),(k:Int)]) ts[j].kids[k]))):=bI
 have aQ:(Yl path 0 ts).length<=2000000:=aQ;have bN:ts.length<=1000000:=bN;have hv:Z8 Z7 w (Lt w.heap.size) ts (.slice A ts.length cap):=hv;show Calls Tryz.prog 106 #[.agg #[.int .i64 tk,.string tx,.int .i64 tc,.slice A ts.length cap],.slice Ap path.length cp] w (QX w (Yl path 0 ts));have bz:Below w.heap.size w (w.alloc (Obj.cells #[.int .i64 tk,.string tx,.int .i64 tc,.slice A ts.length cap] 24)):=Xx _ _;have HB0:=hid bz;have HV:Hid (∀W,Below w.heap.size w W->Z8 Z7 W (Lt W.heap.size) ts (.slice A ts.length cap)):=fun W h=>hv.below h h.size
 have HP:Hid (∀W,Below w.heap.size w W->Z0 W (Lt W.heap.size) path (.slice Ap path.length cp)):=fun W h=>hp.below h h.size
 have au:Hid (∀W,Below (w.heap.size+1) (w.alloc (Obj.cells #[.int .i64 tk,.string tx,.int .i64 tc,.slice A ts.length cap] 24)) W->W.cell? ⟨w.heap.size,3,none⟩=some (.slice A ts.length cap)/\w.heap.size+1<=W.heap.size/\Below w.heap.size w W) :=
  fun W hW=>⟨((bcell hW).1 _ _ (by omega)).trans (by rw[World.cell?_alloc_new];rfl),by have:=hW.size;simpa using this,bz.trans (hW.mono (Nat.le_succ _))⟩
 clear hv hp bz;generalize aS:Yl path 0 ts=aT at *;have bA:=hid aS;clear aS;go_enter Tryz.func106,Tryz.ntmps106
 go_wp2_with fail
 generalize bU:w.alloc (Obj.cells #[.int .i64 tk,.string tx,.int .i64 tc,.slice A ts.length cap] 24)=W0 at *;have bL:W0.heap.size=w.heap.size+1:=by rw[<-bU];simp
 have HZ0:=hid bL;clear bU bL
 go_loopw [5,6] (fun v i wr=>Below (w.heap.size+1) W0 wr/\∃(j:Nat) (aG:List (List Int)),j<=ts.length/\i=.int .i64 j/\Yk wr (w.heap.size+1) aG v/\aG++Yl path j (ts.drop j)=aT) (fun _ i _=>ts.length+1-(intOf i).toNat)
 case atStart=>exact⟨QQ _ _,0,[],QU _,rfl,Yk.nil _ _,bA.out⟩
 obtain⟨aF,j,aG,hj,rfl,ay,af⟩:=hrel;have HT:=hid af;have cK:=hid aF;have HO:=hid ay;have dx:aG.length<=2000000:=by have:=congrArg List.length af;rw[List.length_append] at this;omega
 obtain⟨c3,hz,av⟩:=au.out wr aF;have HBW:=hid av;have i0:(j:Int)<=(ts.length:Int):=by omega
 have cO:Hid (Below w.heap.size w (wr.alloc (.cells #[] 3))):=by show Below _ _ _;exact av.trans ((Xx _ _).mono av.size)
 clear af aF ay av;have bQ:(aG++[path++[(j:Int)]]).length<=2000001:=by simp;omega
 rcases Nat.lt_or_ge j ts.length with bg|dw
 ·have d1:((j:Int)==(ts.length:Int))=false:=by simp;omega
  have dG:=hid (zH6 path bg)
  go_wp2_with (first
   |(at_builtin;refine YN rfl (.tmp 16) (.tmp 17) rfl wr.heap.size _ [] path rfl (Ta wr) _ _ _ _ rfl (HP.out _ cO.out) (by simp;omega) (by simp) ?_;intro v1 w1 ae ah _;have aK:=hid ae;have ai:=hid ((Xx wr _).trans ah);clear ae ah)
   |(at_builtin;refine YN rfl (.tmp 18) (.tmp 20) rfl wr.heap.size v1 ([]++path) [(j:Int)] rfl (aK.out.below (Xx _ _)) (Lt (w1.alloc (.cells #[.int .i64 j] 3)).heap.size) _ _ _ rfl (Vz w1 [(j:Int)] (by simp[Z4];omega) (by unfold Lt;simp) _ 1 rfl rfl (by simp[maxLen]) _ _ rfl) (by simp;omega) (by have:=ai.out.size;simp;omega) ?_;intro v2 w2 aa aB _;simp only[List.nil_append] at aa;obtain⟨A2,c2,ax⟩:=(aa.ints (S:=fun _=>True) (fun _ _ _=>trivial)).form;rw[show (path++[(j:Int)]).length=path.length+1 by simp] at ax;subst ax;have aP:=hid aa;have ag:=hid (ai.out.trans ((Below.alloc (QQ wr.heap.size w1) ai.out.size _).trans aB));clear aa aB)
   |(at_builtin;refine zOa rfl (.tmp 15) (.tmp 22) rfl (w.heap.size+1) _ aG [path++[(j:Int)]] rfl (HO.out.below (ag.out.trans (Below.alloc (QQ wr.heap.size w2) ag.out.size _))) _ _ _ rfl (zNs aP.out hz (fun k hk=>(HO.out.own_lt k hk).2) ag.out.size _ rfl _) (by simp;omega) (by have:=ag.out.size;simp;omega) ?_;intro v3 w3 aj aR;have bD:=hid aj;have aY:=hid (cK.out.trans ((ag.out.trans (Below.alloc (QQ wr.heap.size w2) ag.out.size _)).mono hz |>.trans aR));obtain⟨bY,bK,aA⟩:=au.out w3 aY.out;have aO:=hid aA;clear aj aR aA))
  obtain⟨g,o,A1,aN,rfl,hg,⟨e0,e1,e2,e3⟩,_,bM,aJ⟩:=zKl (HV.out w (QQ _ _)) bg;have bH:Hid (∀W,Below w.heap.size w W->W.cell? ⟨g,o+j*4+3,none⟩=some (.slice A1 ts[j].kids.length aN)):=fun W hW=>((bcell hW).1 _ _ hg).trans e3
  have dF:=hid aJ;have hgl:g<w.heap.size:=hg;have dA:=bH.out w3 aO.out;have cZ:ts[j].kids.length<=9223372036854775807:=by unfold maxLen at bM;omega
  have i1:(j:Int)<(ts.length:Int):=by omega
  have dB:Hid ((aG++[path++[(j:Int)]])++(XL path j 0 (ts[j].kids.drop 0)++Yl path (j+1) (ts.drop (j+1)))=aT):=by show _=_;rw[<-HT.out,dG.out];simp
  clear e0 e1 e2 e3 aJ bM
  go_wp2_with fail
  go_loopw [5,7] (fun v i W=>Below (w.heap.size+1) W0 W/\∃(k:Nat) (ak:List (List Int)),k<=ts[j].kids.length/\i=.int .i64 k/\Yk W (w.heap.size+1) ak v/\ak++(XL path j k (ts[j].kids.drop k)++Yl path (j+1) (ts.drop (j+1)))=aT) (fun _ i _=>ts[j].kids.length-(intOf i).toNat)
  case atStart=>exact⟨aY.out,0,_,QU _,rfl,bD.out,dB.out⟩
  obtain⟨aF,k,ak,hk,rfl,ay,af⟩:=hrel;have HR:=hid af;have aW:=hid aF;have bC:=hid ay;have bR:ak.length<=2000000:=by have:=congrArg List.length af;rw[List.length_append] at this;omega
  obtain⟨c3,aH,av⟩:=au.out wr aF;have dH:=hid av;have e3:=bH.out wr av;clear af ay bY dA bK;rcases Nat.lt_or_ge k ts[j].kids.length with aL|bi
  ·have bZ:=hid (zHq path j aL);obtain⟨g1,o1,A2,aM,rfl,aD,⟨f0,f1,f2,f3⟩,_,_,az⟩:=zKl dF.out aL;have aC:g1<w.heap.size:=aD;have i2:(k:Int)<(ts[j].kids.length:Int):=by omega
   have KC:Hid (∀W',Below (w.heap.size+1) wr W'->(W'.cell? ⟨w.heap.size,3,none⟩=some (.slice (some ⟨g,o,none⟩) ts.length cap)/\W'.cell? ⟨g,o+j*4+3,none⟩=some (.slice (some ⟨g1,o1,none⟩) ts[j].kids.length aN)/\W'.cell? ⟨g1,o1+k*4,none⟩=some (.int .i64 ts[j].kids[k].kind)/\W'.cell? ⟨g1,o1+k*4+1,none⟩=some (.string ts[j].kids[k].text)/\W'.cell? ⟨g1,o1+k*4+2,none⟩=some (.int .i64 ts[j].kids[k].cols)/\W'.cell? ⟨g1,o1+k*4+3,none⟩=some (.slice A2 ts[j].kids[k].kids.length aM))/\Below w.heap.size w W'):=by
    intro W' dz;obtain⟨q1,_,q3⟩:=au.out W' (aF.trans dz);have hc:=(bcell q3).1;exact⟨⟨q1,bH.out W' q3,(hc _ _ aC).trans f0,(hc _ _ aC).trans f1,(hc _ _ aC).trans f2,(hc _ _ aC).trans f3⟩,q3⟩
   obtain⟨⟨_,_,k0,k1,k2,k3⟩,_⟩:=KC.out wr (QQ _ _);have hgw:g<wr.heap.size:=by omega
   have dn:g1<wr.heap.size:=by omega
   have hww:w.heap.size<wr.heap.size:=by omega
   have bG:=hid az;have dE:Hid (ak.length+(Zh (path++[(j:Int),(k:Int)]) ts[j].kids[k]).length<=1000000000):=by
    show _<=_;have:=congrArg List.length HR.out;rw[bZ.out] at this;simp only[List.length_append] at this;omega
   have bJ:Hid (∀W',W'=wr.alloc (.cells #[] 3)->Zi W'.drew wr.heap.size [] (.slice (some ⟨wr.heap.size,0,none⟩) 0 0)/\Z0 W'.drew (Lt W'.drew.heap.size) path (.slice Ap path.length cp)/\Below wr.heap.size wr W'.drew):=by
    rintro W' rfl;have hb:Below wr.heap.size wr (wr.alloc (.cells #[] 3)).drew:=(Xx _ _).drew;exact⟨Ta wr,HP.out _ (av.trans (hb.mono av.size)),hb⟩
   have aV:Hid (∀W',W'=(wr.alloc (.cells #[] 3)).alloc (.cells #[.int .i64 j,.int .i64 k] 3)->Zi W'.drew wr.heap.size [] (.slice (some ⟨wr.heap.size,0,none⟩) 0 0)/\Z0 W'.drew (Lt W'.drew.heap.size) path (.slice Ap path.length cp)/\Below wr.heap.size wr W'.drew/\Z0 W'.drew (fun k=>k=wr.heap.size+1) [(j:Int),(k:Int)] (.slice (some ⟨wr.heap.size+1,0,none⟩) 2 2)/\W'.drew.heap.size=wr.heap.size+1+1):=by
    rintro W' rfl;have ah:Below wr.heap.size wr (wr.alloc (.cells #[] 3)):=Xx _ _;have hb:Below wr.heap.size wr ((wr.alloc (.cells #[] 3)).alloc (.cells #[.int .i64 j,.int .i64 k] 3)).drew:=(Below.alloc ah ah.size _).drew;exact⟨(Ta wr).below ((Xx _ _).drew),HP.out _ (av.trans (hb.mono av.size)),hb,Vz (wr.alloc (.cells #[] 3)) [(j:Int),(k:Int)] (by simp[Z4];omega) (S:=fun k=>k=wr.heap.size+1) (by simp) _ 2 rfl rfl (by simp[maxLen]) _ _ (by simp),by simp⟩
   have aU:Hid (∀W',W'=(wr.alloc (.cells #[.int .i64 j,.int .i64 k] 3)).alloc (.cells #[] 3)->Zi W'.drew wr.heap.size [] (.slice (some ⟨wr.heap.size+1,0,none⟩) 0 0)/\Z0 W'.drew (Lt W'.drew.heap.size) path (.slice Ap path.length cp)/\Below wr.heap.size wr W'.drew/\Z0 W'.drew (fun k=>k=wr.heap.size) [(j:Int),(k:Int)] (.slice (some ⟨wr.heap.size,0,none⟩) 2 2)/\W'.drew.heap.size=wr.heap.size+1+1):=by
    rintro W' rfl;have ah:Below wr.heap.size wr (wr.alloc (.cells #[.int .i64 j,.int .i64 k] 3)):=Xx _ _;have hb:Below wr.heap.size wr ((wr.alloc (.cells #[.int .i64 j,.int .i64 k] 3)).alloc (.cells #[] 3)).drew:=(Below.alloc ah ah.size _).drew;have ho:=(Ta (wr.alloc (.cells #[.int .i64 j,.int .i64 k] 3))).base (b':=wr.heap.size) (by simp);have df:(wr.alloc (.cells #[.int .i64 j,.int .i64 k] 3)).heap.size=wr.heap.size+1:=by simp
    rw[df] at ho;exact⟨ho,HP.out _ (av.trans (hb.mono av.size)),hb,(Vz wr [(j:Int),(k:Int)] (by simp[Z4];omega) (S:=fun k=>k=wr.heap.size) rfl _ 2 rfl rfl (by simp[maxLen]) _ _ rfl).keep (fun p hp=>(Xx (wr.alloc (.cells #[.int .i64 j,.int .i64 k] 3)) (.cells #[] 3)).cell (by rw[hp];simp)) (fun _ h=>h),by simp⟩
   clear f0 f1 f2 f3 az aF av
   go_wp2_with fail
   go_region_held3 (fun w'=>w'.cell? ⟨w.heap.size,3,none⟩=some (.slice (some ⟨g,o,none⟩) ts.length cap)/\w'.cell? ⟨g,o+j*4+3,none⟩=some (.slice (some ⟨g1,o1,none⟩) ts[j].kids.length aN)/\w'.cell? ⟨g1,o1+k*4,none⟩=some (.int .i64 ts[j].kids[k].kind)/\w'.cell? ⟨g1,o1+k*4+1,none⟩=some (.string ts[j].kids[k].text)/\w'.cell? ⟨g1,o1+k*4+2,none⟩=some (.int .i64 ts[j].kids[k].cols)/\w'.cell? ⟨g1,o1+k*4+3,none⟩=some (.slice A2 ts[j].kids[k].kids.length aM)) (go_keep) (first
    |(refine RL (by rfl) (.tmp 50) (.tmp 51) (by rfl) wr.heap.size _ [] path (by rfl) (bJ.out _ rfl).1 _ _ _ _ (by rfl) (bJ.out _ rfl).2.1 (by simp;omega) (by simp) ?_;intro v1 w1 ae ah aD;have aK:=hid ae;have ai:=hid ((bJ.out _ rfl).2.2.trans ah);obtain⟨⟨p1,p2,p3,p4,p5,p6⟩,p7⟩:=KC.out w1 (ai.out.mono aH);have cu:=hid p7;clear ae ah aD p7)
    |(refine RL (by rfl) (.tmp 50) (.tmp 51) (by rfl) wr.heap.size _ [] path (by rfl) (aV.out _ rfl).1 _ _ _ _ (by rfl) (aV.out _ rfl).2.1 (by simp;omega) (by simp;omega) ?_;intro v1 w1 ae ah aD;have cB:=hid (zFd (aV.out _ rfl).2.2.2.1 aD (by have:=(aV.out _ rfl).2.2.2.2;omega) (by simp[Value.ownBlock]));have aK:=hid ae;have ai:=hid ((aV.out _ rfl).2.2.1.trans ah);obtain⟨⟨p1,p2,p3,p4,p5,p6⟩,p7⟩:=KC.out w1 (ai.out.mono aH);have cu:=hid p7;clear ae ah aD p7)
    |(refine RL (by rfl) (.tmp 50) (.tmp 51) (by rfl) wr.heap.size _ [] path (by rfl) (aU.out _ rfl).1 _ _ _ _ (by rfl) (aU.out _ rfl).2.1 (by simp;omega) (by simp;omega) ?_;intro v1 w1 ae ah aD;have cB:=hid (zFd (aU.out _ rfl).2.2.2.1 aD (by have:=(aU.out _ rfl).2.2.2.2;omega) (by simp[Value.ownBlock]));have aK:=hid ae;have ai:=hid ((aU.out _ rfl).2.2.1.trans ah);obtain⟨⟨p1,p2,p3,p4,p5,p6⟩,p7⟩:=KC.out w1 (ai.out.mono aH);have cu:=hid p7;clear ae ah aD p7)
    |(refine RL (by rfl) (.tmp 52) (.tmp 55) (by rfl) wr.heap.size v1 ([]++path) [(j:Int),(k:Int)] (by rfl) aK.out _ _ _ _ (by rfl) cB.out (by simp;omega) ai.out.size ?_;intro v2 w2 aa aB _;simp only[List.nil_append] at aa;obtain⟨A3,bW,ax⟩:=(aa.ints (S:=fun _=>True) (fun _ _ _=>trivial)).form;rw[show (path++[(j:Int),(k:Int)]).length=path.length+2 by simp] at ax;subst ax;have aP:=hid aa;have ag:=hid (ai.out.trans aB);obtain⟨⟨p1,p2,p3,p4,p5,p6⟩,p7⟩:=KC.out w2 (ag.out.mono aH);have bB:=hid p7;clear aa aB p7)
    |(refine RL (by rfl) (.tmp 52) (.tmp 55) (by rfl) wr.heap.size v1 ([]++path) [(j:Int),(k:Int)] (by rfl) (aK.out.below (Xx _ _)) (Lt (w1.alloc (.cells #[.int .i64 j,.int .i64 k] 3)).heap.size) _ _ _ (by rfl) (Vz w1 [(j:Int),(k:Int)] (by simp[Z4];omega) (by unfold Lt;simp) _ 2 rfl rfl (by simp[maxLen]) _ _ rfl) (by simp;omega) (by have:=ai.out.size;simp;omega) ?_;intro v2 w2 aa aB _;simp only[List.nil_append] at aa;obtain⟨A3,bW,ax⟩:=(aa.ints (S:=fun _=>True) (fun _ _ _=>trivial)).form;rw[show (path++[(j:Int),(k:Int)]).length=path.length+2 by simp] at ax;subst ax;have aP:=hid aa;have ag:=hid (ai.out.trans ((Below.alloc (QQ wr.heap.size w1) ai.out.size _).trans aB));obtain⟨⟨p1,p2,p3,p4,p5,p6⟩,p7⟩:=KC.out w2 (ag.out.mono aH);have bB:=hid p7;clear aa aB p7)
    |(go_at_call 106;refine(bI.out j k bg aL A2 A3 aM bW w2 (bG.out.below bB.out bB.out.size) (aP.out.ints (S:=Lt w2.heap.size) (fun _ _ h=>h))).mono ?_;rintro e w5 ⟨v5,rfl,aZ,bP⟩;obtain⟨A5,c5,rfl⟩:=aZ.rows.form;have dC:=hid aZ;have aX:=hid (ag.out.trans (bP.mono ag.out.size));obtain⟨⟨p1,p2,p3,p4,p5,p6⟩,p7⟩:=KC.out w5 (aX.out.mono aH);clear aZ bP p7)
    |(refine zJ2 (by rfl) (.tmp 40) (.tmp 57) (by rfl) (w.heap.size+1) _ ak _ (by rfl) (bC.out.below aX.out) _ _ _ (by rfl) (bC.out.fresh dC.out (by have:=ag.out.size;omega) ag.out.size) dE.out (by have:=aX.out.size;omega) ?_;intro v6 w6 aI bu;have dD:=hid aI;have dI:=hid (aW.out.trans ((aX.out.mono aH).trans bu));obtain⟨⟨p1,p2,p3,p4,p5,p6⟩,p7⟩:=KC.out w6 ((aX.out.mono aH).trans bu);clear aI bu p7))
   all_goals
    go_wp2_with fail
    go_roundw
    case rel=>exact⟨dI.out,k+1,_,by omega,by go_num,dD.out,by rw[<-HR.out,bZ.out];simp⟩
    case measure=>simp[intOf];omega
  have HF:Hid (ak++Yl path (j+1) (ts.drop (j+1))=aT):=by show _=_;rw[<-HR.out,show ts[j].kids.drop k=[] from List.drop_of_length_le bi,XL,List.nil_append]
  clear aF av
  go_wp2_with fail
  go_roundw
  case rel=>exact⟨aW.out,j+1,ak,by omega,by go_num,bC.out,HF.out⟩
  case measure=>simp[intOf];omega
 have dm:j=ts.length:=by omega
 have d1:((j:Int)==(ts.length:Int))=true:=by simp;omega
 have HF:Hid (aG++[path++[(j:Int)]]=aT):=by show _=_;rw[<-HT.out,List.drop_of_length_le (by omega),Yl]
 clear dm dw
 go_wp2_with (first
  |(at_builtin;refine YN rfl (.tmp 16) (.tmp 17) rfl wr.heap.size _ [] path rfl (Ta wr) _ _ _ _ rfl (HP.out _ cO.out) (by simp;omega) (by simp) ?_;intro v1 w1 ae ah _;have aK:=hid ae;have ai:=hid ((Xx wr _).trans ah);clear ae ah)
  |(at_builtin;refine YN rfl (.tmp 18) (.tmp 20) rfl wr.heap.size v1 ([]++path) [(j:Int)] rfl (aK.out.below (Xx _ _)) (Lt (w1.alloc (.cells #[.int .i64 j] 3)).heap.size) _ _ _ rfl (Vz w1 [(j:Int)] (by simp[Z4];omega) (by unfold Lt;simp) _ 1 rfl rfl (by simp[maxLen]) _ _ rfl) (by simp;omega) (by have:=ai.out.size;simp;omega) ?_;intro v2 w2 aa aB _;simp only[List.nil_append] at aa;obtain⟨A2,c2,ax⟩:=(aa.ints (S:=fun _=>True) (fun _ _ _=>trivial)).form;rw[show (path++[(j:Int)]).length=path.length+1 by simp] at ax;subst ax;have aP:=hid aa;have ag:=hid (ai.out.trans ((Below.alloc (QQ wr.heap.size w1) ai.out.size _).trans aB));clear aa aB)
  |(at_builtin;refine zOa rfl (.tmp 15) (.tmp 22) rfl (w.heap.size+1) _ aG [path++[(j:Int)]] rfl (HO.out.below (ag.out.trans (Below.alloc (QQ wr.heap.size w2) ag.out.size _))) _ _ _ rfl (zNs aP.out hz (fun k hk=>(HO.out.own_lt k hk).2) ag.out.size _ rfl _) (by simp;omega) (by have:=ag.out.size;simp;omega) ?_;intro v3 w3 aj aR;have bD:=hid aj;have aY:=hid (cK.out.trans ((ag.out.trans (Below.alloc (QQ wr.heap.size w2) ag.out.size _)).mono hz |>.trans aR));obtain⟨bY,bK,aA⟩:=au.out w3 aY.out;have aO:=hid aA;clear aj aR aA))
 go_ret;exact⟨_,rfl,by rw[<-HF.out];exact bD.out.base (Nat.le_succ _),aO.out⟩
