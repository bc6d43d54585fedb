/- T -/
import Derived.Test.YthpngeboknmllaaGreatQeb41
import Derived.Shelf.RegionOpen
import Derived.OwnWalkIn
import Derived.TacticsInMore
import Derived.LoopNIn
import Derived.LoopIn
set_option linter.unusedVariables false
set_option linter.unusedSimpArgs false
set_option maxHeartbeats 4000000
set_option maxRecDepth 100000
namespace Go.Proofs.YthpngeboknmllaaGreat
open Go Go.RowKit Go.Shelf
attribute [local go_sem] Oper.semAt_some
abbrev ZF:=List Int×Value
def PRd (n1:Nat) (x:ZF) (W:World):Prop:=Z0 W (fun k=>n1<=k/\k<W.heap.size) x.1 x.2
def Uh (V:World->Nat->Prop) (n1:Nat) (x:ZF) (W:World):Prop:=Z0 W (fun k=>n1<=k/\k<W.heap.size/\¬V W k) x.1 x.2
def V7 (V:World->Nat->Prop) (W:World) (k:Nat):Prop:=k<W.heap.size/\¬V W k
theorem Y8.ok {V:World->Nat->Prop} {W W':World} (h:Y8 V W W'):∀k,V7 V W k->V7 V W' k:=fun k hk=>⟨Qk hk.1 h.size,fun e=>hk.2 (h.less k hk.1 e)⟩
theorem Z8.but {α:Type} {E:YA α} {V:World->Nat->Prop} {W W':World} {xs:List α} {v:Value} (h:Z8 E W (V7 V W) xs v) (hb:Y8 V W W'):Z8 E W' (V7 V W') xs v:=h.keep hb.same hb.ok
theorem Z8.wide {α:Type} {E:YA α} {W:World} {S S':Nat->Prop} {xs:List α} {v:Value} (h:Z8 E W S xs v) (hS:∀k,S k->S' k):Z8 E W S' xs v:=h.keep (Wi _ _) hS
def zNo (w:World) (xs:List Int) (e:Ending) (w':World):Prop:=∃v,e=.returned v/\Z0 w' (fun k=>w.heap.size<=k/\k<w'.heap.size) xs v/\Below w.heap.size w w'
theorem zPo {W:World} {xs ys:List Int} {u v:Value} (hu:Z0 W (Lt W.heap.size) xs u) (hv:Z0 W (Lt W.heap.size) ys v) (g:Nat) (hg:g=W.heap.size) (e:TypeId) :
  Z8 (XK ZA) (W.alloc (.cells #[u,v] e)) (Lt (W.alloc (.cells #[u,v] e)).heap.size) [xs,ys] (.slice (some ⟨g,0,none⟩) 2 2):=by
 subst hg;have hb:Below W.heap.size W (W.alloc (.cells #[u,v] e)):=XM _ _;refine⟨_,_,[u,v],rfl,Qi _,by simp[maxLen],fun _=>⟨W.heap.size,0,rfl,by unfold Lt;simp,fun j x hx=>?_⟩,[u],[v],rfl,⟨u,rfl,hu.below hb hb.size⟩,ZG.single (E:=XK ZA) ⟨v,rfl,hv.below hb hb.size⟩⟩;rw[Nat.zero_add,World.cell?_alloc_new];simpa using hx
theorem cat2 (W:World) (xs ys:List Int) (u:Value) (hu:Z0 W (Lt W.heap.size) xs u) (hy:∀y∈ys,Z4 y) (cs:Array Value) (ag:cs=(ys.map (Value.int .i64 ·)).toArray) (m:Nat) (hm:m=ys.length) (hy1:m<=100) (af:xs.length<=900000) (g:Nat) (hg:g=W.heap.size) (W':World)
  (hW:W'=(W.alloc (.cells cs 3)).alloc (.cells #[u,.slice (some ⟨g,0,none⟩) m m] 25)\/W'=((W.alloc (.cells cs 3)).alloc (.cells #[u,.slice (some ⟨g,0,none⟩) m m] 25)).drew) (n:Nat) :
  CallsIn Fence.wide n Tryz.prog 87 #[.slice (some ⟨g+1,0,none⟩) 2 2] W' (zNo W (xs++ys)):=by
 subst ag hm hg;refine callsIn_wide.2 ?_;have ae:Below W.heap.size W (W.alloc (.cells (ys.map (Value.int .i64 ·)).toArray 3)):=XM _ _;have hl:∀S:Nat->Prop,S W.heap.size->Z0 (W.alloc (.cells (ys.map (Value.int .i64 ·)).toArray 3)) S ys (.slice (some ⟨W.heap.size,0,none⟩) ys.length ys.length):=fun S hS=>UT W ys hy hS _ ys.length rfl rfl (by simp[maxLen];omega) _ _ rfl
 have hr:=zPo (hu.below ae ae.size) (hl (Lt (W.alloc (.cells (ys.map (Value.int .i64 ·)).toArray 3)).heap.size) (by unfold Lt;simp)) (W.heap.size+1) (by simp) 25;have aa:Below W.heap.size W ((W.alloc (.cells (ys.map (Value.int .i64 ·)).toArray 3)).alloc (.cells #[u,.slice (some ⟨W.heap.size,0,none⟩) ys.length ys.length] 25)):=ae.alloc ae.size _;have hf:[xs,ys].flatten=xs++ys:=by simp
 rcases hW with rfl|rfl
 ·refine(Qq _ _ _ hr (by rw[hf];simp;omega)).mono ?_;rintro e w1 ⟨v1,rfl,ho,hb⟩;rw[hf] at ho;exact⟨v1,rfl,ho.ints (fun k h1 h2=>⟨by simp at h1;omega,h2⟩),aa.trans (hb.mono aa.size)⟩
 refine(Qq _ _ _ (zEl hr) (by rw[hf];simp;omega)).mono ?_;rintro e w1 ⟨v1,rfl,ho,hb⟩;rw[hf] at ho;refine⟨v1,rfl,ho.ints (fun k h1 h2=>⟨?_,h2⟩),aa.drew.trans (hb.mono aa.drew.size)⟩;have:=aa.drew.size;omega
def Qm (TOT L:List (List Int)) (V:World->Nat->Prop) (J Jx:List ZF->World->Prop) (pre:List ZF) (W:World) (e:Ending) (W':World):Prop :=
 (e=.returned (.bool true)/\∃xs:List ZF,xs.map Prod.fst=L/\J (pre++xs) W'/\Y8 V W W')\/(e=.returned (.bool false)/\∃q:List ZF,(pre++q).map Prod.fst <+: TOT/\Jx (pre++q) W')
theorem Uy {pre xs:List ZF} {L R T:List (List Int)} (h1:pre.map Prod.fst++(L++R)=T) (h2:(pre++xs).map Prod.fst++R=T):xs.map Prod.fst=L:=by
 rw[<-h1,List.map_append,List.append_assoc] at h2;exact List.append_cancel_right (List.append_cancel_left h2)
theorem zPd (l n1:Nat) (V:World->Nat->Prop) (TOT:List (List Int)) (J Jx:List ZF->World->Prop) (hV:∀s W,J s W->Gdv V W) (hJ:zVu J) (bC:zVu Jx)
  (hY:∀pre x W1,J pre W1->Uh V n1 x W1->(pre++[x]).map Prod.fst <+: TOT->YieldAt Fence.wide 0 Tryz.prog l #[x.2] W1 fun e W' =>
   (e=.returned (.bool true)/\J (pre++[x]) W'/\Y8 V W1 W')\/(e=.returned (.bool false)/\Jx (pre++[x]) W')) (t:Z9) :
  ∀
   (path:List Int) (g o:Nat) (A Ap:Option Addr) (cap cp:Nat) (pre:List ZF) (aa:List (List Int)) (w:World),w.cell? ⟨g,o+3,none⟩=some (.slice A t.kids.length cap)->V7 V w g ->
   Z8 Z6 w (V7 V w) t.kids (.slice A t.kids.length cap)->Z0 w (V7 V w) path (.slice Ap path.length cp)->path.length+2*ZR t<=800000->n1<=w.heap.size->J pre w->pre.map Prod.fst++(ZJ path t++aa)=TOT ->
   CallsIn Fence.wide 0 Tryz.prog 147 #[.pointer (some ⟨g,o,none⟩),.slice Ap path.length cp,.func (.yield l) #[] #[]] w (Qm TOT (ZJ path t) V J Jx pre w):=by
 induction t using Z9.ind' with
 |h t ih =>
 intro path g o A Ap cap cp pre aa w hc hg hv hp aR hn aZ av;have HE:Hid (ZJ path t=YG path 0 t.kids):=zKs path t;have bu:=XW t;have bL:Hid (∀(j k:Nat) (hj:j<t.kids.length) (hk:k<t.kids[j].kids.length) (g o:Nat) (A1 A2:Option Addr) (c1 c2:Nat) (pre:List ZF) (aa:List (List Int)) (W:World),W.cell? ⟨g,o+3,none⟩=some (.slice A1 t.kids[j].kids[k].kids.length c1)->V7 V W g ->
   Z8 Z6 W (V7 V W) t.kids[j].kids[k].kids (.slice A1 t.kids[j].kids[k].kids.length c1)->Z0 W (V7 V W) (path++[(j:Int),(k:Int)]) (.slice A2 (path.length+2) c2)->n1<=W.heap.size->J pre W->pre.map Prod.fst++(ZJ (path++[(j:Int),(k:Int)]) t.kids[j].kids[k]++aa)=TOT ->
   CallsIn Fence.wide 0 Tryz.prog 147 #[.pointer (some ⟨g,o,none⟩),.slice A2 (path.length+2) c2,.func (.yield l) #[] #[]] W (Qm TOT (ZJ (path++[(j:Int),(k:Int)]) t.kids[j].kids[k]) V J Jx pre W)):=by
  intro j k hj hk g o A1 A2 c1 c2 pre aa W h1 h2 h3 h4 h5 h6 h7;have hl:(path++[(j:Int),(k:Int)]).length=path.length+2:=by simp
  have hc1:=Qs hj;have hc2:=Qs hk;rw[<-hl] at h4 ⊢;exact ih _ (List.getElem_mem hj) _ (List.getElem_mem hk) _ _ _ _ _ _ _ _ _ _ h1 h2 h3 h4 (by rw[hl];omega) h5 h6 h7
 have aI:Hid (∀(xs:List ZF) W',(pre++xs).map Prod.fst++aa=TOT->J (pre++xs) W'->Y8 V w W'->Qm TOT (ZJ path t) V J Jx pre w (.returned (.bool true)) W'):=fun xs W' h1 h2 h3=>.inl ⟨rfl,xs,Uy av h1,h2,h3⟩
 have aO:Hid (∀(q:List ZF) W',(pre++q).map Prod.fst <+: TOT->Jx (pre++q) W'->Qm TOT (ZJ path t) V J Jx pre w (.returned (.bool false)) W'):=fun q W' h1 h2=>.inr ⟨rfl,q,h1,h2⟩
 have H0:Hid (pre.map Prod.fst++(YG path 0 t.kids++aa)=TOT):=by rw[HE.out] at av;exact av
 generalize Qm TOT (ZJ path t) V J Jx pre w=bD at aI aO ⊢;have hpl:path.length<=800000:=by omega
 have htl:t.kids.length<=800000:=by omega
 clear ih HE aR bu av;generalize t.kids=ts at *;have HV:=hid hV;have HP:Hid (∀W,Y8 V w W->Z0 W (V7 V W) path (.slice Ap path.length cp)):=fun W h=>hp.but h
 have HT:Hid (∀W,Y8 V w W->Z8 Z6 W (V7 V W) ts (.slice A ts.length cap)):=fun W h=>hv.but h
 have ak:Hid (∀W,Y8 V w W->W.cell? ⟨g,o+3,none⟩=some (.slice A ts.length cap)):=fun W h=>(h.cell (p:=⟨g,o+3,none⟩) hg.1 hg.2).trans hc
 have HY:=hid hY;have HJ:=hid hJ;have HN:=hid hn;have bJ:=hid aZ;clear hc hg hv hp hV hY hJ bC aZ hn;refine callsIn_of_wp Tryz.func147 rfl trivial ?_ rfl;simp only[Tryz.ntmps147,List.size_toArray,List.length_cons,List.length_nil,Nat.reduceAdd,Nat.reduceSub,Array.replicate_succ,Array.replicate_zero,List.push_toArray,List.append_toArray,List.nil_append,List.cons_append]
 gi_wp2_with fail
 gi_loopw [7] (fun i wr=>∃(j:Nat) (xs:List ZF),j<=ts.length/\i=.int .i64 j/\J (pre++xs) wr/\Y8 V w wr/\(pre++xs).map Prod.fst++(YG path j (ts.drop j)++aa)=TOT) (fun i _=>ts.length+1-(intOf i).toNat)
 case atStart=>exact⟨0,[],Qj _,rfl,by rw[List.append_nil];exact bJ.out,Y8.refl _ _,by rw[List.append_nil];exact H0.out⟩
 obtain⟨j,xs,hj,rfl,aY,aH,ay⟩:=hrel;have HR:=hid ay;have aG:=hid aH;have au:=hid aY;have aN:Hid (n1<=wr.heap.size):=Qf HN.out aH.size;have c0:=ak.out wr aH;have aV:Hid (∀n,CallsIn Fence.wide n Tryz.prog 87 #[.slice (some ⟨wr.heap.size+1,0,none⟩) 2 2] ((wr.alloc (.cells #[.int .i64 j] 3)).alloc (.cells #[.slice Ap path.length cp,.slice (some ⟨wr.heap.size,0,none⟩) 1 1] 25)) (zNo wr (path++[(j:Int)]))) :=
  fun n=>cat2 wr path [(j:Int)] _ ((HP.out wr aH).wide (fun k h=>h.1)) (by simp[Z4];omega) _ rfl 1 rfl (by omega) (by omega) _ rfl _ (.inl rfl) n
 clear ay aH aY;have aT:Hid ((pre++xs++[((path++[(j:Int)],.bool true):ZF)]).map Prod.fst <+: TOT):=by
  show _ <+: _;rw[<-HR.out];rcases Nat.lt_or_ge j ts.length with h|h
  ·rw[List.drop_eq_getElem_cons h,zFr];exact⟨_,by simp;rfl⟩
  rw[List.drop_of_length_le h,YG];exact⟨_,by simp;rfl⟩
 have aM:Hid (∀v1 w1,Z0 w1 (fun k=>wr.heap.size<=k/\k<w1.heap.size) (path++[(j:Int)]) v1->Below wr.heap.size wr w1->YieldAt Fence.wide 0 Tryz.prog l #[v1] w1 fun e W' =>
   (e=.returned (.bool true)/\Hid (J (pre++(xs++[(path++[(j:Int)],v1)])) W')/\Hid (Y8 V w W'))\/(e=.returned (.bool false)/\Hid (Jx (pre++(xs++[(path++[(j:Int)],v1)])) W'))):=by
  intro v1 w1 h1 h2;have hh:=HY.out (pre++xs) (path++[(j:Int)],v1) w1 (HJ.out _ _ _ au.out h2) (h1.wide fun k hk=>⟨Qf aN.out hk.1,hk.2,fun hv=>by have:=(HV.out _ _ au.out _ h2 k hv).2;have:=hk.1;omega⟩) (by simpa using aT.out);rw[List.append_assoc] at hh;refine YieldAt.mono hh fun e W' h=>h.imp (fun ⟨a,b,c⟩=>⟨a,b,aG.out.trans ((Y8.of_below h2 (HV.out _ _ au.out)).trans c)⟩) id
 have aF:Hid (∀v1,(pre++(xs++[((path++[(j:Int)],v1):ZF)])).map Prod.fst <+: TOT):=fun v1=>by simpa using aT.out
 clear aT;have ii:(0:Int)<=(j:Int):=by omega
 rcases Nat.lt_or_ge j ts.length with aP|bB
 ·obtain⟨ga,oa,A1,aC,rfl,aJ,⟨_,_,_,e3⟩,_,aX,az⟩:=zKl (HT.out w (Y8.refl _ _)) aP;have aU:Hid (∀W,Y8 V w W->W.cell? ⟨g,o+3,none⟩=some (.slice (some ⟨ga,oa,none⟩) ts.length cap)/\W.cell? ⟨ga,oa+j*4+3,none⟩=some (.slice A1 ts[j].kids.length aC)):=fun W h=>⟨ak.out W h,(h.cell (p:=⟨ga,oa+j*4+3,none⟩) aJ.1 aJ.2).trans e3⟩
  have bI:Hid (∀W,Y8 V w W->Z8 Z6 W (V7 V W) ts[j].kids (.slice A1 ts[j].kids.length aC)):=fun W h=>az.but h
  have bq:ts[j].kids.length<=9223372036854775807:=by unfold maxLen at aX;omega
  have i1:(j:Int)<(ts.length:Int):=by omega
  have d1:((j:Int)==(ts.length:Int))=false:=by simp;omega
  have bK:=hid (zH6 path aP);have ax:Hid (∀v1 w1,Z0 w1 (fun k=>wr.heap.size<=k/\k<w1.heap.size) (path++[(j:Int)]) v1->Below wr.heap.size wr w1->YieldAt Fence.wide 0 Tryz.prog l #[v1] w1 fun e W' =>
   (e=.returned (.bool true)/\Hid (J (pre++(xs++[(path++[(j:Int)],v1)])) W')/\Hid (Y8 V w W')/\W'.cell? ⟨g,o+3,none⟩=some (.slice (some ⟨ga,oa,none⟩) ts.length cap)/\W'.cell? ⟨ga,oa+j*4+3,none⟩=some (.slice A1 ts[j].kids.length aC))\/(e=.returned (.bool false)/\Hid (Jx (pre++(xs++[(path++[(j:Int)],v1)])) W'))) :=
   fun v1 w1 h1 h2=>YieldAt.mono (aM.out v1 w1 h1 h2) fun e W' h=>h.imp (fun ⟨a,b,c⟩=>⟨a,b,c,aU.out W' c.out⟩) id
  clear aM;have bA:ga<w.heap.size:=aJ.1;clear e3 az aJ aX
  gi_wp2_with (first
   |(refine⟨trivial,rfl,?_⟩;gi_at_call 87;refine(aV.out _).mono ?_;rintro e w1 ⟨v1,rfl,ah,af⟩;obtain⟨fn,tmps,aD,body,hy,hR⟩:=ax.out v1 w1 ah af;clear ah af)
   |((try refine⟨rfl,?_⟩);refine hR.mono ?_;clear hR;rintro e W2 (⟨rfl,HJ2,HB2,c2,f3⟩|⟨rfl,HX2⟩)))
  ·have bn:Hid ((pre++(xs++[((path++[(j:Int)],v1):ZF)])).map Prod.fst++(X8 path j 0 (ts[j].kids.drop 0)++(YG path (j+1) (ts.drop (j+1))++aa))=TOT):=by show _=_;rw[<-HR.out,bK.out];simp
   gi_loopw [45] (fun i W=>∃(k:Nat) (ys:List ZF),k<=ts[j].kids.length/\i=.int .i64 k/\J (pre++ys) W/\Y8 V w W/\(pre++ys).map Prod.fst++(X8 path j k (ts[j].kids.drop k)++(YG path (j+1) (ts.drop (j+1))++aa))=TOT) (fun i _=>ts[j].kids.length-(intOf i).toNat)
   case atStart=>exact⟨0,_,Qj _,rfl,HJ2.out,HB2.out,bn.out⟩
   clear HR aG au aN aV ax aF HJ2 HB2 c2 f3 bn c0;obtain⟨k,ys,hk,rfl,aB,ag,ae⟩:=hrel;have HR:=hid ae;have aG:=hid ag;have au:=hid aB;have aN:Hid (n1<=wr.heap.size):=Qf HN.out ag.size;obtain⟨c2,f3⟩:=aU.out wr ag;rcases Nat.lt_or_ge k ts[j].kids.length with aA|aQ
   ·have bH:=hid (zHq path j aA);obtain⟨g1,o1,A2,aS,rfl,aK,⟨_,_,_,e3⟩,_,_,aj⟩:=zKl (bI.out w (Y8.refl _ _)) aA;have i2:(k:Int)<(ts[j].kids.length:Int):=by omega
    have i3:(0:Int)<=(k:Int):=by omega
    have bG:Hid (∀w1 v1,Below wr.heap.size wr w1->Z0 w1 (fun i=>wr.heap.size<=i/\i<w1.heap.size) (path++[(j:Int),(k:Int)]) v1->∃A3 c3,v1=.slice A3 (path.length+2) c3 /\
      Hid (CallsIn Fence.wide 0 Tryz.prog 147 #[.pointer (some ⟨g1,o1+k*4,none⟩),.slice A3 (path.length+2) c3,.func (.yield l) #[] #[]] w1 fun e W' =>
       ∃b:Bool,e=.returned (.bool b)/\Hid ((b=true/\∃zs:List ZF,J (pre++(ys++zs)) W'/\Y8 V w W'/\(pre++(ys++zs)).map Prod.fst++(X8 path j (k+1) (ts[j].kids.drop (k+1))++(YG path (j+1) (ts.drop (j+1))++aa))=TOT)\/(b=false/\∃zs:List ZF,(pre++(ys++zs)).map Prod.fst <+: TOT/\Jx (pre++(ys++zs)) W')))):=by
     intro w1 v1 af ah;obtain⟨A3,c3,rfl⟩:=ah.form;have hl:(path++[(j:Int),(k:Int)]).length=path.length+2:=by simp
     rw[hl] at ah ⊢;have aL:Y8 V w w1:=aG.out.trans (Y8.of_below af (HV.out _ _ au.out));have hR:=HR.out;rw[bH.out,List.append_assoc] at hR;refine⟨A3,c3,rfl,(bL.out j k aP aA g1 (o1+k*4) A2 A3 aS c3 (pre++ys) _ w1 ((aL.cell (p:=⟨g1,o1+k*4+3,none⟩) aK.1 aK.2).trans e3) (aL.ok _ aK) (aj.but aL) (ah.wide fun i hi=>⟨hi.2,fun hv=>?_⟩) (Qf aN.out af.size) (HJ.out _ _ _ au.out af) hR).mono ?_⟩
     ·have:=(HV.out _ _ au.out _ af i hv).2;have:=hi.1;omega
     rintro e W' (⟨rfl,zs,hz,hj,hb⟩|⟨rfl,zs,hz,hj⟩)
     ·refine⟨true,rfl,.inl ⟨rfl,zs,by rw[<-List.append_assoc];exact hj,aL.trans hb,?_⟩⟩;rw[<-hR,<-List.append_assoc pre,List.map_append,hz];simp
     exact⟨false,rfl,.inr ⟨rfl,zs,by rw[<-List.append_assoc];exact hz,by rw[<-List.append_assoc];exact hj⟩⟩
    have bN:Hid (∀n W',(W'=(wr.alloc (.cells #[.int .i64 j,.int .i64 k] 3)).alloc (.cells #[.slice Ap path.length cp,.slice (some ⟨wr.heap.size,0,none⟩) 2 2] 25)\/W'=((wr.alloc (.cells #[.int .i64 j,.int .i64 k] 3)).alloc (.cells #[.slice Ap path.length cp,.slice (some ⟨wr.heap.size,0,none⟩) 2 2] 25)).drew)->CallsIn Fence.wide n Tryz.prog 87 #[.slice (some ⟨wr.heap.size+1,0,none⟩) 2 2] W' (zNo wr (path++[(j:Int),(k:Int)]))) :=
     fun n W' hW=>cat2 wr path [(j:Int),(k:Int)] _ ((HP.out wr ag).wide (fun k h=>h.1)) (by simp[Z4];omega) _ rfl 2 rfl (by omega) (by omega) _ rfl W' hW n
    clear aj e3 aK ae ag aB;have hgw:ga<wr.heap.size:=by have:=aG.out.size;have:=bA;omega
    gi_wp2_with fail
    gi_region_with (first
     |(refine⟨trivial,rfl,?_⟩;gi_at_call 87;refine(bN.out _ _ (by first|exact .inl rfl|exact .inr rfl)).mono ?_;rintro e w1 ⟨v1,rfl,ah,af⟩;obtain⟨A3,c3,rfl,bg⟩:=bG.out w1 v1 af ah;obtain⟨c5,f5⟩:=aU.out w1 (aG.out.trans (Y8.of_below af (HV.out _ _ au.out)));clear ah af)
     |(refine⟨trivial,rfl,?_⟩;gi_at_call 147;refine bg.out.mono ?_;clear bg;rintro e W3 ⟨b,rfl,aW⟩))
    all_goals
     obtain⟨q,hq⟩:∃q,q=aW.out:=⟨_,rfl⟩;clear hq;rcases q with ⟨rfl,zs,q1,q2,q3⟩|⟨rfl,zs,q1,q2⟩
     ·have Q1:=hid q1;have Q2:=hid q2;have Q3:=hid q3;clear q1 q2 q3 aW
      gi_wp2_with fail
      go_roundw
      case rel=>exact⟨k+1,ys++zs,by omega,by go_num,Q1.out,Q2.out,Q3.out⟩
      case measure=>simp[intOf];omega
     have Q1:=hid q1;have Q2:=hid q2;clear q1 q2 aW
     gi_wp2_with fail
     exact aO.out _ _ Q1.out Q2.out
   have HF:Hid ((pre++ys).map Prod.fst++(YG path (j+1) (ts.drop (j+1))++aa)=TOT):=by show _=_;rw[<-HR.out,show ts[j].kids.drop k=[] from List.drop_of_length_le aQ,X8,List.nil_append]
   clear ae ag aB
   gi_wp2_with fail
   go_roundw
   case rel=>exact⟨j+1,ys,by omega,by go_num,au.out,aG.out,HF.out⟩
   case measure=>simp[intOf];omega
  exact aO.out _ _ (aF.out v1) HX2.out
 have bz:j=ts.length:=by omega
 have d1:((j:Int)==(ts.length:Int))=true:=by simp;omega
 have HF:Hid ((pre++(xs++[((path++[(j:Int)],.bool true):ZF)])).map Prod.fst++aa=TOT):=by show _=_;rw[<-HR.out,List.drop_of_length_le (by omega),YG];simp
 have bM:Hid (∀v1,(pre++(xs++[((path++[(j:Int)],v1):ZF)])).map Prod.fst++aa=TOT):=fun v1=>by rw[<-HF.out];simp
 have ax:Hid (∀v1 w1,Z0 w1 (fun k=>wr.heap.size<=k/\k<w1.heap.size) (path++[(j:Int)]) v1->Below wr.heap.size wr w1->YieldAt Fence.wide 0 Tryz.prog l #[v1] w1 fun e W' =>
  (e=.returned (.bool true)/\Hid (J (pre++(xs++[(path++[(j:Int)],v1)])) W')/\Hid (Y8 V w W')/\W'.cell? ⟨g,o+3,none⟩=some (.slice A ts.length cap))\/(e=.returned (.bool false)/\Hid (Jx (pre++(xs++[(path++[(j:Int)],v1)])) W'))) :=
  fun v1 w1 h1 h2=>YieldAt.mono (aM.out v1 w1 h1 h2) fun e W' h=>h.imp (fun ⟨a,b,c⟩=>⟨a,b,c,ak.out W' c.out⟩) id
 clear bz bB HF aM
 gi_wp2_with (first
  |(refine⟨trivial,rfl,?_⟩;gi_at_call 87;refine(aV.out _).mono ?_;rintro e w1 ⟨v1,rfl,ah,af⟩;obtain⟨fn,tmps,aD,body,hy,hR⟩:=ax.out v1 w1 ah af;clear ah af)
  |((try refine⟨rfl,?_⟩);refine hR.mono ?_;clear hR;rintro e W2 (⟨rfl,HJ2,HB2,c2⟩|⟨rfl,HX2⟩)))
 ·exact aI.out _ _ (bM.out v1) HJ2.out HB2.out
 exact aO.out _ _ (aF.out v1) HX2.out
