/- T -/
import Derived.Test.YthpngeboknmllaaGreatQ8237
set_option linter.unusedVariables false
set_option linter.unusedSimpArgs false
set_option maxHeartbeats 8000000
set_option maxRecDepth 100000
namespace Go.Proofs.YthpngeboknmllaaGreat
open Go.RowKit
def XY:Z9:=.mk 5 ⟨#[]⟩ 0 [Z6 [],Z6 []]
def XD:Z9:=Z6 [XY]
theorem RP (k:Int) (h:k=1\/k=5):YT k ⟨#[]⟩=true:=by
 unfold YT;rw[if_neg (by omega),if_neg (by omega),if_neg (by omega),if_neg (by omega),if_neg (by omega),Lib.toList_data];rfl
theorem zO9:Zd XD=true:=by
 simp only[XD,XY,Z6,Zd,XX,RP 1 (.inl rfl),RP 5 (.inr rfl),List.length_cons,List.length_nil];decide +kernel
theorem SC:ZN XD=true:=by
 unfold ZN;rw[zO9];decide +kernel
theorem zN9:ZA XD ([]++[0,1]++[0])=true:=by decide +kernel
theorem U6:Zt XD:=⟨by simp[XD,Z6,Z9.kind,Z4],by simp[XD,Z6,Z9.cols,Z4],QU _⟩
theorem TL:([]++[0,1]++[0]:List Int)=[0,1,0]:=rfl
theorem zWv:(ZI XD [0,1,0] []).2=0/\¬(ZI XD [0,1,0] []).1.2.1<(ZI XD [0,1,0] []).1.2.2/\Zz XD [0,1,0]=some ⟨[],0,1,XY⟩:=by
 have aa:=zWz (q:=[]++[0,1]) SC zN9;have ha:=Q8 SC zN9;have hk:ZY (ZM XD []).1 0=XY:=rfl;rw[hk] at ha;rw[TL] at aa ha;exact⟨by rw[aa],by rw[aa];simp,ha⟩
theorem zNj:R6 XD [0,1,0] [] true=(⟨[Zf ⟨[],0,1,XY⟩],[0,1,0],[],[0],[]⟩,0):=by
 have aa:=zWz (q:=[]++[0,1]) SC zN9;have he:R6 XD ([]++[0,1]++[0]) [] true=UK XD ([]++[0,1]++[0]) [] true:=zJs (by rw[aa]) (by rw[aa];simp);have hT:=er_T (q:=[]++[0,1]) (o:=0) XD true (its:=[]) SC (by decide +kernel) rfl;show R6 XD ([]++[0,1]++[0]) [] true=_;rw[he,hT,if_neg (by simp),Q8 SC zN9];have hk:ZY (ZM XD []).1 0=XY:=rfl;simp only[hk];rw[if_pos (by decide +kernel)];have ae:=zPf (t:=XD) (q:=[]) (its:=[XY]) (a:=0) (s:=1) SC (by decide +kernel) rfl (by simp) (by decide +kernel) rfl;exact(Vk (p:=[]++[0,1]++[0]) (mk:=[]) (pos:=[]++[0]) SC ae).1
theorem SB (A:Option Addr) (n c:Nat) (w:World):Calls Tryz.prog 16 #[.slice A n c] w fun e w'=>e=.returned (.agg #[.int .i64 1,.string ⟨#[]⟩,.int .i64 0,.slice A n c])/\w'=w.alloc (.cells #[.int .i64 1,.string ⟨#[]⟩,.int .i64 0,.slice A n c] 24):=by
 go_enter Tryz.func16,Tryz.ntmps16
 go_wp2
 exact bodyPost_ret (v:=.agg #[.int .i64 1,.string ⟨#[]⟩,.int .i64 0,.slice A n c]) (by simp[results,Tryz.results16,go_sem]) rfl ⟨rfl,rfl⟩
theorem zGv (W:World) (S:Nat->Prop) (k c:Int) (s:ByteArray) (ts:List Z9) (v:Value) (hk:Z4 k) (hc:Z4 c) (hs:s.size<=maxLen) (h:Z8 Z7 W S ts v):Z7.R W S (.mk k s c ts) [.int .i64 k,.string s,.int .i64 c,v] :=
 YI.2 ⟨v,rfl,hk,hc,hs,h⟩
theorem zK6 {α:Type} {E:YW α} (W:World) (ts:List α) (arr:Array Value) (cs:List Value) (aa:arr=cs.toArray) (h:ZK E W (Lt W.heap.size) ts cs) (hl:ts.length<=maxLen) (n g:Nat) (hn:n=ts.length) (hg:g=W.heap.size) (e:TypeId) :
  Z8 E (W.alloc (.cells arr e)) (Lt (W.alloc (.cells arr e)).heap.size) ts (.slice (some ⟨g,0,none⟩) n n):=by
 subst aa hn hg;have hb:Below W.heap.size W (W.alloc (.cells cs.toArray e)):=ZX _ _;refine⟨_,_,cs,rfl,QT _,hl,fun _=>⟨W.heap.size,0,rfl,by unfold Lt;simp,fun j x hx=>?_⟩,h.keep (Zy.of_below hb (QT _)) (Lt.mono hb.size)⟩;rw[Nat.zero_add,World.cell?_alloc_new];simpa using hx
theorem zIr (w:World):Calls Tryz.prog 6 #[] w fun e w'=>e=.returned (.bool true)/\Below w.heap.size w w':=by
 obtain⟨V,hV⟩:∃V,(w.alloc (.cells #[.int .i64 1,.string ⟨#[]⟩,.int .i64 0,.slice none 0 0] 24)).alloc (.cells #[.int .i64 1,.string ⟨#[]⟩,.int .i64 0,.slice none 0 0] 24)=V:=⟨_,rfl⟩;obtain⟨V1,ah⟩:∃V1,V.alloc (.cells #[.int .i64 1,.string ⟨#[]⟩,.int .i64 0,.slice none 0 0,.int .i64 1,.string ⟨#[]⟩,.int .i64 0,.slice none 0 0] 24)=V1:=⟨_,rfl⟩;obtain⟨V2,ag⟩:∃V2,V1.alloc (.cells #[.int .i64 5,.string ⟨#[]⟩,.int .i64 0,.slice (some ⟨V.heap.size,0,none⟩) 2 2] 24)=V2:=⟨_,rfl⟩;obtain⟨V3,az⟩:∃V3,V2.alloc (.cells #[.int .i64 1,.string ⟨#[]⟩,.int .i64 0,.slice (some ⟨V1.heap.size,0,none⟩) 1 1] 24)=V3:=⟨_,rfl⟩;obtain⟨V4,af⟩:∃V4,V3.alloc (.cells #[.int .i64 1,.string ⟨#[]⟩,.int .i64 0,.slice (some ⟨V1.heap.size,0,none⟩) 1 1] 24)=V4:=⟨_,rfl⟩;obtain⟨V5,ae⟩:∃V5,V4.alloc (.cells #[.int .i64 0,.int .i64 1,.int .i64 0] 3)=V5:=⟨_,rfl⟩;have b0:Below w.heap.size w V:=by rw[<-hV];exact Zq (ZX _ _) _
 have b1:Below V.heap.size V V1:=by rw[<-ah];exact ZX _ _
 have b2:Below V1.heap.size V1 V2:=by rw[<-ag];exact ZX _ _
 have b3:Below V2.heap.size V2 V3:=by rw[<-az];exact ZX _ _
 have b4:Below V3.heap.size V3 V4:=by rw[<-af];exact ZX _ _
 have b5:Below V4.heap.size V4 V5:=by rw[<-ae];exact ZX _ _
 have hz:∀(W:World) (S:Nat->Prop),Z7.R W S (Z6 []) [.int .i64 1,.string ⟨#[]⟩,.int .i64 0,.slice none 0 0]:=fun W S=>zGv W S 1 0 ⟨#[]⟩ [] _ (by simp[Z4]) (by simp[Z4]) (QU _) (Z8.nil_ 0 (QU _) none)
 have r1:Z8 Z7 V1 (Lt V1.heap.size) [Z6 [],Z6 []] (.slice (some ⟨V.heap.size,0,none⟩) 2 2):=by
  rw[<-ah];exact zK6 V _ _ _ rfl (ZK.append (ZK.single (E:=Z7) (hz V _)) (ZK.single (E:=Z7) (hz V _))) (by simp[maxLen]) _ _ rfl rfl _
 have r2:Z8 Z7 V2 (Lt V2.heap.size) [XY] (.slice (some ⟨V1.heap.size,0,none⟩) 1 1):=by
  rw[<-ag];exact zK6 V1 _ _ _ rfl (ZK.single (E:=Z7) (zGv V1 _ 5 0 ⟨#[]⟩ _ _ (by simp[Z4]) (by simp[Z4]) (QU _) r1)) (by simp[maxLen]) _ _ rfl rfl _
 have r5:Z8 Z7 V5 (Lt V5.heap.size) XD.kids (.slice (some ⟨V1.heap.size,0,none⟩) 1 1):=((r2.below b3 b3.size).below b4 b4.size).below b5 b5.size;have n4:Z5 V4 V3.heap.size (.cells #[.int .i64 1,.string ⟨#[]⟩,.int .i64 0,.slice (some ⟨V1.heap.size,0,none⟩) 1 1] 24):=by rw[<-af];exact Z5.at0 _ _
 have p5:Z0 V5 (Lt V5.heap.size) [0,1,0] (.slice (some ⟨V4.heap.size,0,none⟩) 3 3):=by rw[<-ae];exact zNu V4 [0,1,0] 3 (by simp[Z4]) (by simp[maxLen])
 have bb:Below w.heap.size w V5:=Zx (Zx (Zx (Zx (Zx b0 b1) b2) b3) b4) b5;have CE:Hid (Calls Tryz.prog 17 #[.agg #[.int .i64 1,.string ⟨#[]⟩,.int .i64 0,.slice (some ⟨V1.heap.size,0,none⟩) 1 1],.agg #[.slice (some ⟨V4.heap.size,0,none⟩) 3 3,.slice none 0 0],.bool true] V5 (Zg V5 (⟨[Zf ⟨[],0,1,XY⟩],[0,1,0],[],[0],[]⟩,0))):=by
  have h:=zWw XD [0,1,0] [] (some ⟨V1.heap.size,0,none⟩) (some ⟨V4.heap.size,0,none⟩) none 1 3 0 V5 r5 U6 (by decide) p5 (Z8.nil_ 0 (QU _) none) (by simp) (by simp) zWv.1 zWv.2.1 rfl [] 0 1 XY zWv.2.2 (by decide +kernel);rw[zNj] at h;exact h
 have BB:=hid bb;have m0:=n4.cell 0;have m1:=n4.cell 1;have m2:=n4.cell 2;have m3:=n4.cell 3;simp only[List.getElem?_toArray,List.getElem?_cons_zero,List.getElem?_cons_succ] at m0 m1 m2 m3;have HKD:Hid ((Zf ⟨[],0,1,XY⟩).kind=4):=rfl;clear b0 b1 b2 b3 b4 b5 hz r1 r2 r5 n4 p5 bb;go_enter Tryz.func6,Tryz.ntmps6
 go_wp2_with (first
  |(go_at_call 16;refine(SB _ _ _ _).mono ?_;rintro e w9 ⟨rfl,rfl⟩)
  |fail)
 refine CE.out.mono ?_;rintro e we ⟨Ao,co,Ap,cp,Am,cm,Aap,cap,Aam,cam,rfl,r1,_,_,r4,_,ay⟩;have au:=hid (Zx BB.out ay);obtain⟨_,_,rso,hq,_,_,av,ax⟩:=r1;cases hq;obtain⟨g,o,Ar,An,cr,cn,e9,hg,p0,_⟩:=Rq av ax (k:=0) Nat.one_pos;subst e9;have p1:we.cell? ⟨g,o,none⟩=some (.int .i64 4):=p0;have aj:Hid (Z0 we (Lt we.heap.size) [0] (.slice Aap 1 cap)):=hid (r4.keep (fun _ _=>rfl) (fun k hk=>hk.2));have ak:=hid p1;clear av ax hg p0 p1 hV ah ag az af ae ay m0 m1 m2 m3 r4 CE;simp only[List.length_cons,List.length_nil,Nat.zero_add]
 go_upto_region 4 with fail
 generalize hX:World.alloc we _=X;have aa:Below we.heap.size we X:=by rw[<-hX];exact ZX _ _
 have ai:Z5 X we.heap.size (.cells #[.slice (some ⟨g,o,none⟩) 1 co,.slice Ap 3 cp,.slice Am 0 cm,.slice Aap 1 cap,.slice Aam 0 cam] 35):=by rw[<-hX];exact Z5.at0 _ _
 have p1:X.cell? ⟨g,o,none⟩=some (.int .i64 4):=(aa.cell (p:=⟨g,o,none⟩) (World.block_lt_of_cell? we _ ak.out)).trans ak.out;have r0:=ai.cell 0;have r3:=ai.cell 3;simp only[List.getElem?_toArray,List.getElem?_cons_zero,List.getElem?_cons_succ] at r0 r3;have aj:=hid (aj.out.below aa aa.size);have au:=hid (Zx au.out aa);clear hX aa ai ak
 go_wp2_with fail
 refine(zPl [0] [0] _ _ _ (Lt X.heap.size) _ (aj.out.below (B':=X.heap.size) (ZX X _) (QT _)) (Vz _ [0] (by simp[Z4]) (S:=fun _=>True) trivial #[.int .i64 0] 1 rfl rfl (by simp[maxLen]) 3 _ rfl)).mono ?_;rintro e w8 ⟨rfl,n8,rfl⟩;rw[show decide (ZP [0] [0]=0)=true by decide]
 go_wp2_with fail
 go_ret;exact⟨rfl,YX (Zq au.out _) _⟩
theorem Zv.bl {w0:World} {r:Za×Int} {Ao Ap Am Aq An:Option Addr} {co cp cm cq cn:Nat} {W X:World} (h0:Z8 Zb W (Lt W.heap.size) r.1.ops (.slice Ao r.1.ops.length co)) (h1:Z0 W (Lt W.heap.size) r.1.bp (.slice Ap r.1.bp.length cp)) (h2:Z0 W (Lt W.heap.size) r.1.bm (.slice Am r.1.bm.length cm)) (h3:Z0 W (Lt W.heap.size) r.1.ap (.slice Aq r.1.ap.length cq)) (h4:Z0 W (Lt W.heap.size) r.1.am (.slice An r.1.am.length cn)) (hb:Below W.heap.size W X) :
  Z8 Zb X (Lt X.heap.size) r.1.ops (.slice Ao r.1.ops.length co)/\Z0 X (Lt X.heap.size) r.1.bp (.slice Ap r.1.bp.length cp)/\Z0 X (Lt X.heap.size) r.1.bm (.slice Am r.1.bm.length cm)/\Z0 X (Lt X.heap.size) r.1.ap (.slice Aq r.1.ap.length cq)/\Z0 X (Lt X.heap.size) r.1.am (.slice An r.1.am.length cn) :=
 ⟨h0.below hb hb.size,h1.below hb hb.size,h2.below hb hb.size,h3.below hb hb.size,h4.below hb hb.size⟩
theorem zPa (t:Z9) (p m:List Int) (k s:Int) (items:List Z9) (x:ByteArray) (f:Bool) (A Ap Am An:Option Addr) (cap cp cm cn:Nat) (w:World) (aa:Za×Int) (hv:Z8 Z7 w (Lt w.heap.size) t.kids (.slice A t.kids.length cap)) (hn:Z8 Z7 w (Lt w.heap.size) items (.slice An items.length cn)) (hx:x.size<=maxLen)
  (hR:TA t p m items x=true->∀W,Below w.heap.size w W->Calls Tryz.prog 8 #[.agg #[.int .i64 t.kind,.string t.text,.int .i64 t.cols,.slice A t.kids.length cap],.agg #[.slice Ap p.length cp,.slice Am m.length cm],.agg #[.int .i64 k,.slice An items.length cn,.int .i64 s,.string x,.bool f]] W (Zv W aa))
  (hS:TA t p m items x=true->∀W,Below w.heap.size w W->Calls Tryz.prog 15 #[.agg #[.int .i64 t.kind,.string t.text,.int .i64 t.cols,.slice A t.kids.length cap],.agg #[.slice Ap p.length cp,.slice Am m.length cm],.agg #[.int .i64 k,.slice An items.length cn,.int .i64 s,.string x,.bool f]] W (Zv W aa)) :
  Calls Tryz.prog 5 #[.agg #[.int .i64 t.kind,.string t.text,.int .i64 t.cols,.slice A t.kids.length cap],.agg #[.slice Ap p.length cp,.slice Am m.length cm],.agg #[.int .i64 k,.slice An items.length cn,.int .i64 s,.string x,.bool f]] w fun e w'=>e=.returned (.bool true)/\Below w.heap.size w w':=by
 obtain⟨W0,ai⟩:∃W0,((w.alloc (.cells #[.int .i64 t.kind,.string t.text,.int .i64 t.cols,.slice A t.kids.length cap] 24)).alloc (.cells #[.slice Ap p.length cp,.slice Am m.length cm] 27)).alloc (.cells #[.int .i64 k,.slice An items.length cn,.int .i64 s,.string x,.bool f] 30)=W0:=⟨_,rfl⟩;have ax:Below w.heap.size w W0:=by rw[<-ai];exact Zq (Zq (ZX _ _) _) _
 have aW:Z5 W0 w.heap.size (.cells #[.int .i64 t.kind,.string t.text,.int .i64 t.cols,.slice A t.kids.length cap] 24):=by rw[<-ai];exact((Z5.at0 _ _).al _).al _
 have aV:Z5 W0 (w.heap.size+1) (.cells #[.slice Ap p.length cp,.slice Am m.length cm] 27):=by rw[<-ai];exact(Z5.at1 _ _ _).al _
 have aU:Z5 W0 (w.heap.size+1+1) (.cells #[.int .i64 k,.slice An items.length cn,.int .i64 s,.string x,.bool f] 30):=by rw[<-ai];exact Z5.at2 _ _ _ _
 have KB:Hid (∀W,Below W0.heap.size W0 W->(W.cell? ⟨w.heap.size,0,none⟩=some (.int .i64 t.kind)/\W.cell? ⟨w.heap.size,1,none⟩=some (.string t.text)/\W.cell? ⟨w.heap.size,2,none⟩=some (.int .i64 t.cols)/\W.cell? ⟨w.heap.size,3,none⟩=some (.slice A t.kids.length cap)/\W.cell? ⟨w.heap.size+1,0,none⟩=some (.slice Ap p.length cp)/\W.cell? ⟨w.heap.size+1,1,none⟩=some (.slice Am m.length cm) /\
   W.cell? ⟨w.heap.size+1+1,0,none⟩=some (.int .i64 k)/\W.cell? ⟨w.heap.size+1+1,1,none⟩=some (.slice An items.length cn)/\W.cell? ⟨w.heap.size+1+1,2,none⟩=some (.int .i64 s)/\W.cell? ⟨w.heap.size+1+1,3,none⟩=some (.string x)/\W.cell? ⟨w.heap.size+1+1,4,none⟩=some (.bool f))/\Below w.heap.size w W):=fun W hW=>by
  have h1:=aW.below hW;have h2:=aV.below hW;have h3:=aU.below hW;exact⟨⟨h1.cell 0,h1.cell 1,h1.cell 2,h1.cell 3,h2.cell 0,h2.cell 1,h3.cell 0,h3.cell 1,h3.cell 2,h3.cell 3,h3.cell 4⟩,ax.trans (hW.mono ax.size)⟩
 have CF:Hid (∀W,Below w.heap.size w W->Calls Tryz.prog 7 #[.agg #[.int .i64 t.kind,.string t.text,.int .i64 t.cols,.slice A t.kids.length cap],.agg #[.slice Ap p.length cp,.slice Am m.length cm],.agg #[.int .i64 k,.slice An items.length cn,.int .i64 s,.string x,.bool f]] W fun e w'=>e=.returned (.bool (TA t p m items x))/\Below W.heap.size W w'):=fun W hW=>zQj t p m k s items x f A Ap Am An cap cp cm cn W (hv.below hW hW.size) (hn.below hW hW.size) hx
 have HR:=hid hR;have HS:=hid hS;obtain⟨bf,aX⟩:∃bf,TA t p m items x=bf:=⟨_,rfl⟩;rw[aX] at CF HR HS;clear hv hn hx hR hS ax aW aV aU aX;go_enter Tryz.func5,Tryz.ntmps5
 go_wp2_with fail
 refine(zIr _).mono ?_;rintro e w1 ⟨rfl,av⟩;obtain⟨⟨m0,m1,m2,m3,n0,n1,c0,c1,c2,c3,c4⟩,af⟩:=KB.out w1 av;have HK:=hid af;have HT:=hid av;clear av af ai
 go_wp2_with fail
 refine(CF.out _ HK.out).mono ?_;rintro e w2 ⟨rfl,aZ⟩;have HT:=hid (Zx HT.out aZ);clear aZ m0 m1 m2 m3 n0 n1 c0 c1 c2 c3 c4;obtain⟨⟨m0,m1,m2,m3,n0,n1,c0,c1,c2,c3,c4⟩,af⟩:=KB.out w2 HT.out;have HK:=hid af;clear af;cases bf
 case false =>
  clear m0 m1 m2 m3 n0 n1 c0 c1 c2 c3 c4 HR HS
  go_wp2_with fail
  refine(zIr _).mono ?_;rintro e w3 ⟨rfl,ah⟩;have HK:=hid (Zx HK.out ah);clear ah
  go_wp2_with fail
  go_ret;exact⟨rfl,HK.out⟩
 case true =>
  go_wp2_with fail
  refine(HR.out (by trivial) _ HK.out).mono ?_;rintro e w3 ⟨aP,aD,aN,aB,aT,aI,aL,az,aR,aG,rfl,r0,r1,r2,r3,r4,ah⟩;have HT:=hid (Zx HT.out ah);clear m0 m1 m2 m3 n0 n1 c0 c1 c2 c3 c4 ah
  go_upto_region 4 with fail
  generalize hX:World.alloc w3 _=X;have ae:Below w3.heap.size w3 X:=by rw[<-hX];exact ZX _ _
  have hs:Z5 X w3.heap.size (.cells #[.slice aP aa.1.ops.length aD,.slice aN aa.1.bp.length aB,.slice aT aa.1.bm.length aI,.slice aL aa.1.ap.length az,.slice aR aa.1.am.length aG] 35):=by rw[<-hX];exact Z5.at0 _ _
  have ak:=hid (Zv.bl (w0:=w) r0 r1 r2 r3 r4 ae);have aJ:=hid hs;have HT:=hid (Zx HT.out ae);obtain⟨⟨m0,m1,m2,m3,n0,n1,c0,c1,c2,c3,c4⟩,af⟩:=KB.out X HT.out;have HK:=hid af;clear hX ae hs af r0 r1 r2 r3 r4
  go_wp2_with fail
  refine(HS.out (by trivial) _ HK.out).mono ?_;rintro e w4 ⟨aO,aC,aM,aA,aS,aH,aK,ay,aQ,aF,rfl,q0,q1,q2,q3,q4,au⟩;obtain⟨r0,r1,r2,r3,r4⟩:=ak.out;have ak:=hid (Zv.bl (w0:=w) r0 r1 r2 r3 r4 au);have HT:=hid (Zx HT.out au);have aJ:=hid (aJ.out.below au);clear m0 m1 m2 m3 n0 n1 c0 c1 c2 c3 c4 au r0 r1 r2 r3 r4
  go_upto_region 5 with fail
  generalize hY:World.alloc w4 _=Y;have ae:Below w4.heap.size w4 Y:=by rw[<-hY];exact ZX _ _
  have hs:Z5 Y w4.heap.size (.cells #[.slice aO aa.1.ops.length aC,.slice aM aa.1.bp.length aA,.slice aS aa.1.bm.length aH,.slice aK aa.1.ap.length ay,.slice aQ aa.1.am.length aF] 35):=by rw[<-hY];exact Z5.at0 _ _
  have bg:=hid (Zv.bl (w0:=w) q0 q1 q2 q3 q4 ae);obtain⟨r0,r1,r2,r3,r4⟩:=ak.out;have ak:=hid (Zv.bl (w0:=w) r0 r1 r2 r3 r4 ae);have ag:=aJ.out.below ae;have HT:=hid (Zx HT.out ae);have HK:=hid (KB.out Y HT.out).2;clear hY ae q0 q1 q2 q3 q4 r0 r1 r2 r3 r4;have g0:=hs.cell 0;have g1:=hs.cell 1;have g2:=hs.cell 2;have g3:=hs.cell 3;have g4:=hs.cell 4;have e0:=ag.cell 0;have e1:=ag.cell 1;have e2:=ag.cell 2;have e3:=ag.cell 3;have e4:=ag.cell 4;simp only[List.getElem?_toArray,List.getElem?_cons_zero,List.getElem?_cons_succ] at g0 g1 g2 g3 g4 e0 e1 e2 e3 e4;clear hs ag;have aj:Hid (Calls Tryz.prog 9 #[.agg #[.slice aP aa.1.ops.length aD,.slice aN aa.1.bp.length aB,.slice aT aa.1.bm.length aI,.slice aL aa.1.ap.length az,.slice aR aa.1.am.length aG],.agg #[.slice aO aa.1.ops.length aC,.slice aM aa.1.bp.length aA,.slice aS aa.1.bm.length aH,.slice aK aa.1.ap.length ay,.slice aQ aa.1.am.length aF]] Y fun e w'=>e=.returned (.bool true)/\Below Y.heap.size Y w'):=by
   obtain⟨r0,r1,r2,r3,r4⟩:=ak.out;obtain⟨q0,q1,q2,q3,q4⟩:=bg.out;exact zOk aa.1 aP aN aT aL aR aD aB aI az aG aO aM aS aK aQ aC aA aH ay aF Y r0 r1 r2 r3 r4 q0 q1 q2 q3 q4
  have he:(aa.2==aa.2)=true:=by simp
  go_wp2_with fail
  refine aj.out.mono ?_;rintro e w5 ⟨rfl,aY⟩;have HK:=hid (Zx HK.out aY);clear aY
  go_wp2_with fail
  go_ret;exact⟨rfl,HK.out⟩
