/- T -/
import Derived.Test.YthpngeboknmllaaGreatQ76c3
set_option linter.unusedVariables false
set_option linter.unusedSimpArgs false
set_option maxHeartbeats 4000000
set_option maxRecDepth 100000
namespace Go.Proofs.YthpngeboknmllaaGreat
open Go.RowKit
def WX:Z9:=.mk 5 ⟨#[]⟩ 0 [Z7 [],Z7 []]
def WH:Z9:=Z7 [WX]
theorem tx14 (k:Int) (h:k=1\/k=5):YN k ⟨#[]⟩=true:=by
 unfold YN;rw[if_neg (by omega),if_neg (by omega),if_neg (by omega),if_neg (by omega),if_neg (by omega),Lib.toList_data];rfl
theorem zO9:Y9 WH=true:=by
 simp only[WH,WX,Z7,Y9,XV,tx14 1 (.inl rfl),tx14 5 (.inr rfl),List.length_cons,List.length_nil];decide +kernel
theorem zD6:ZU WH=true:=by
 unfold ZU;rw[zO9];decide +kernel
theorem zN9:ZO WH ([]++[0,1]++[0])=true:=by decide +kernel
theorem Um:Zk WH:=⟨by simp[WH,Z7,Z9.kind,Z4],by simp[WH,Z7,Z9.cols,Z4],Qj _⟩
theorem zNj:WB WH [0,1,0] [] true=(⟨[YL ⟨[],0,1,WX⟩],[0,1,0],[],[0],[]⟩,0):=by
 have aa:=Ti (q:=[]++[0,1]) zD6 zN9;have he:WB WH ([]++[0,1]++[0]) [] true=We WH ([]++[0,1]++[0]) [] true:=zJs (by rw[aa]) (by rw[aa];simp);have hT:=er_T (q:=[]++[0,1]) (o:=0) WH true (its:=[]) zD6 (by decide +kernel) rfl;show WB WH ([]++[0,1]++[0]) [] true=_;rw[he,hT,if_neg (by simp),zUb zD6 zN9];have hk:ZZ (ZP WH []).1 0=WX:=rfl;simp only[hk];rw[if_pos (by decide +kernel)];have ae:=zPf (t:=WH) (q:=[]) (its:=[WX]) (a:=0) (s:=1) zD6 (by decide +kernel) rfl (by simp) (by decide +kernel) rfl;exact(UC (p:=[]++[0,1]++[0]) (mk:=[]) (pos:=[]++[0]) zD6 ae).1
theorem QZ (A:Option Addr) (n c:Nat) (w:World):Calls Tryz.prog 16 #[.slice A n c] w fun e w'=>e=.returned (.agg #[.int .i64 1,.string ⟨#[]⟩,.int .i64 0,.slice A n c])/\w'=w.alloc (.cells #[.int .i64 1,.string ⟨#[]⟩,.int .i64 0,.slice A n c] 24):=by
 go_enter Tryz.func16,Tryz.ntmps16
 go_wp2
 exact bodyPost_ret (v:=.agg #[.int .i64 1,.string ⟨#[]⟩,.int .i64 0,.slice A n c]) (by simp[results,Tryz.results16,go_sem]) rfl ⟨rfl,rfl⟩
theorem zGv (W:World) (S:Nat->Prop) (k c:Int) (s:ByteArray) (ts:List Z9) (v:Value) (hk:Z4 k) (hc:Z4 c) (hs:s.size<=maxLen) (h:Z8 Z6 W S ts v):Z6.R W S (.mk k s c ts) [.int .i64 k,.string s,.int .i64 c,v] :=
 Yl.2 ⟨v,rfl,hk,hc,hs,h⟩
theorem zK6 {α:Type} {E:YA α} (W:World) (ts:List α) (arr:Array Value) (cs:List Value) (aa:arr=cs.toArray) (h:ZG E W (Lt W.heap.size) ts cs) (hl:ts.length<=maxLen) (n g:Nat) (hn:n=ts.length) (hg:g=W.heap.size) (e:TypeId) :
  Z8 E (W.alloc (.cells arr e)) (Lt (W.alloc (.cells arr e)).heap.size) ts (.slice (some ⟨g,0,none⟩) n n):=by
 subst aa hn hg;have hb:Below W.heap.size W (W.alloc (.cells cs.toArray e)):=ZW _ _;refine⟨_,_,cs,rfl,Qi _,hl,fun _=>⟨W.heap.size,0,rfl,by unfold Lt;simp,fun j x hx=>?_⟩,h.keep (Zr.of_below hb (Qi _)) (Lt.mono hb.size)⟩;rw[Nat.zero_add,World.cell?_alloc_new];simpa using hx
theorem zIr (w:World):Calls Tryz.prog 6 #[] w fun e w'=>e=.returned (.bool true)/\Below w.heap.size w w':=by
 obtain⟨V,hV⟩:∃V,(w.alloc (.cells #[.int .i64 1,.string ⟨#[]⟩,.int .i64 0,.slice none 0 0] 24)).alloc (.cells #[.int .i64 1,.string ⟨#[]⟩,.int .i64 0,.slice none 0 0] 24)=V:=⟨_,rfl⟩;obtain⟨V1,ah⟩:∃V1,V.alloc (.cells #[.int .i64 1,.string ⟨#[]⟩,.int .i64 0,.slice none 0 0,.int .i64 1,.string ⟨#[]⟩,.int .i64 0,.slice none 0 0] 24)=V1:=⟨_,rfl⟩;obtain⟨V2,ag⟩:∃V2,V1.alloc (.cells #[.int .i64 5,.string ⟨#[]⟩,.int .i64 0,.slice (some ⟨V.heap.size,0,none⟩) 2 2] 24)=V2:=⟨_,rfl⟩;obtain⟨V3,aA⟩:∃V3,V2.alloc (.cells #[.int .i64 1,.string ⟨#[]⟩,.int .i64 0,.slice (some ⟨V1.heap.size,0,none⟩) 1 1] 24)=V3:=⟨_,rfl⟩;obtain⟨V4,af⟩:∃V4,V3.alloc (.cells #[.int .i64 1,.string ⟨#[]⟩,.int .i64 0,.slice (some ⟨V1.heap.size,0,none⟩) 1 1] 24)=V4:=⟨_,rfl⟩;obtain⟨V5,ae⟩:∃V5,V4.alloc (.cells #[.int .i64 0,.int .i64 1,.int .i64 0] 3)=V5:=⟨_,rfl⟩;have b0:Below w.heap.size w V:=by rw[<-hV];exact Zy (ZW _ _) _
 have b1:Below V.heap.size V V1:=by rw[<-ah];exact ZW _ _
 have b2:Below V1.heap.size V1 V2:=by rw[<-ag];exact ZW _ _
 have b3:Below V2.heap.size V2 V3:=by rw[<-aA];exact ZW _ _
 have b4:Below V3.heap.size V3 V4:=by rw[<-af];exact ZW _ _
 have b5:Below V4.heap.size V4 V5:=by rw[<-ae];exact ZW _ _
 have hz:∀(W:World) (S:Nat->Prop),Z6.R W S (Z7 []) [.int .i64 1,.string ⟨#[]⟩,.int .i64 0,.slice none 0 0]:=fun W S=>zGv W S 1 0 ⟨#[]⟩ [] _ (by simp[Z4]) (by simp[Z4]) (Qj _) (Z8.nil_ 0 (Qj _) none)
 have r1:Z8 Z6 V1 (Lt V1.heap.size) [Z7 [],Z7 []] (.slice (some ⟨V.heap.size,0,none⟩) 2 2):=by
  rw[<-ah];exact zK6 V _ _ _ rfl (ZG.append (ZG.single (E:=Z6) (hz V _)) (ZG.single (E:=Z6) (hz V _))) (by simp[maxLen]) _ _ rfl rfl _
 have r2:Z8 Z6 V2 (Lt V2.heap.size) [WX] (.slice (some ⟨V1.heap.size,0,none⟩) 1 1):=by
  rw[<-ag];exact zK6 V1 _ _ _ rfl (ZG.single (E:=Z6) (zGv V1 _ 5 0 ⟨#[]⟩ _ _ (by simp[Z4]) (by simp[Z4]) (Qj _) r1)) (by simp[maxLen]) _ _ rfl rfl _
 have r5:Z8 Z6 V5 (Lt V5.heap.size) WH.kids (.slice (some ⟨V1.heap.size,0,none⟩) 1 1):=((r2.below b3 b3.size).below b4 b4.size).below b5 b5.size;have n4:Z5 V4 V3.heap.size (.cells #[.int .i64 1,.string ⟨#[]⟩,.int .i64 0,.slice (some ⟨V1.heap.size,0,none⟩) 1 1] 24):=by rw[<-af];exact Z5.at0 _ _
 have p5:Z0 V5 (Lt V5.heap.size) [0,1,0] (.slice (some ⟨V4.heap.size,0,none⟩) 3 3):=by rw[<-ae];exact TZ V4 [0,1,0] 3 (by simp[Z4]) (by simp[maxLen])
 have bb:Below w.heap.size w V5:=Zo (Zo (Zo (Zo (Zo b0 b1) b2) b3) b4) b5;have CE:Hid (Calls Tryz.prog 17 #[.agg #[.int .i64 1,.string ⟨#[]⟩,.int .i64 0,.slice (some ⟨V1.heap.size,0,none⟩) 1 1],.agg #[.slice (some ⟨V4.heap.size,0,none⟩) 3 3,.slice none 0 0],.bool true] V5 (ZC V5 (⟨[YL ⟨[],0,1,WX⟩],[0,1,0],[],[0],[]⟩,0))):=by
  have h:=zJx WH [0,1,0] [] (some ⟨V1.heap.size,0,none⟩) (some ⟨V4.heap.size,0,none⟩) none 1 3 0 true V5 r5 Um (by decide) p5 (Z8.nil_ 0 (Qj _) none) (by simp) (by simp);rw[zNj] at h;exact h
 have BB:=hid bb;have m0:=n4.cell 0;have m1:=n4.cell 1;have m2:=n4.cell 2;have m3:=n4.cell 3;simp only[List.getElem?_toArray,List.getElem?_cons_zero,List.getElem?_cons_succ] at m0 m1 m2 m3;have HKD:Hid ((YL ⟨[],0,1,WX⟩).kind=4):=rfl;clear b0 b1 b2 b3 b4 b5 hz r1 r2 r5 n4 p5 bb;go_enter Tryz.func6,Tryz.ntmps6
 go_wp2_with (first
  |(go_at_call 16;refine(QZ _ _ _ _).mono ?_;rintro e w9 ⟨rfl,rfl⟩)
  |fail)
 refine CE.out.mono ?_;rintro e we ⟨Ao,co,Ap,cp,Am,cm,Aap,cap,Aam,cam,rfl,r1,_,_,r4,_,az⟩;have av:=hid (Zo BB.out az);obtain⟨_,_,rso,hq,_,_,ax,ay⟩:=r1;cases hq;obtain⟨g,o,Ar,An,cr,cn,e9,hg,p0,_⟩:=zLf ax ay (k:=0) Nat.one_pos;subst e9;have p1:we.cell? ⟨g,o,none⟩=some (.int .i64 4):=p0;have ak:Hid (Z0 we (Lt we.heap.size) [0] (.slice Aap 1 cap)):=hid (r4.keep (fun _ _=>rfl) (fun k hk=>hk.2));have au:=hid p1;clear ax ay hg p0 p1 hV ah ag aA af ae az m0 m1 m2 m3 r4 CE;simp only[List.length_cons,List.length_nil,Nat.zero_add]
 go_upto_region 4 with fail
 generalize hX:World.alloc we _=X;have aa:Below we.heap.size we X:=by rw[<-hX];exact ZW _ _
 have aj:Z5 X we.heap.size (.cells #[.slice (some ⟨g,o,none⟩) 1 co,.slice Ap 3 cp,.slice Am 0 cm,.slice Aap 1 cap,.slice Aam 0 cam] 35):=by rw[<-hX];exact Z5.at0 _ _
 have p1:X.cell? ⟨g,o,none⟩=some (.int .i64 4):=(aa.cell (p:=⟨g,o,none⟩) (World.block_lt_of_cell? we _ au.out)).trans au.out;have r0:=aj.cell 0;have r3:=aj.cell 3;simp only[List.getElem?_toArray,List.getElem?_cons_zero,List.getElem?_cons_succ] at r0 r3;have ak:=hid (ak.out.below aa aa.size);have av:=hid (Zo av.out aa);clear hX aa aj au
 go_wp2_with fail
 refine(zPl [0] [0] _ _ _ (Lt X.heap.size) _ (ak.out.below (B':=X.heap.size) (ZW X _) (Qi _)) (UT _ [0] (by simp[Z4]) (S:=fun _=>True) trivial #[.int .i64 0] 1 rfl rfl (by simp[maxLen]) 3 _ rfl)).mono ?_;rintro e w8 ⟨rfl,n8,rfl⟩;rw[show decide (ZX [0] [0]=0)=true by decide]
 go_wp2_with fail
 go_ret;exact⟨rfl,YP (Zy av.out _) _⟩
theorem Zh.bl {w0:World} {r:Ze×Int} {Ao Ap Am Aq An:Option Addr} {co cp cm cq cn:Nat} {W X:World} (h0:Z8 Za W (Lt W.heap.size) r.1.ops (.slice Ao r.1.ops.length co)) (h1:Z0 W (Lt W.heap.size) r.1.bp (.slice Ap r.1.bp.length cp)) (h2:Z0 W (Lt W.heap.size) r.1.bm (.slice Am r.1.bm.length cm)) (h3:Z0 W (Lt W.heap.size) r.1.ap (.slice Aq r.1.ap.length cq)) (h4:Z0 W (Lt W.heap.size) r.1.am (.slice An r.1.am.length cn)) (hb:Below W.heap.size W X) :
  Z8 Za X (Lt X.heap.size) r.1.ops (.slice Ao r.1.ops.length co)/\Z0 X (Lt X.heap.size) r.1.bp (.slice Ap r.1.bp.length cp)/\Z0 X (Lt X.heap.size) r.1.bm (.slice Am r.1.bm.length cm)/\Z0 X (Lt X.heap.size) r.1.ap (.slice Aq r.1.ap.length cq)/\Z0 X (Lt X.heap.size) r.1.am (.slice An r.1.am.length cn) :=
 ⟨h0.below hb hb.size,h1.below hb hb.size,h2.below hb hb.size,h3.below hb hb.size,h4.below hb hb.size⟩
