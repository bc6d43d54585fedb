/- T -/
import Derived.Test.YthpngeboknmllaaGreatQba8d
import Derived.Test.YthpngeboknmllaaGreatQ5d16
set_option linter.unusedVariables false
set_option linter.unusedSimpArgs false
set_option maxHeartbeats 16000000
set_option maxRecDepth 100000
namespace Go.Proofs.YthpngeboknmllaaGreat
open Go.RowKit
theorem zTi (t:Z9) (p m:List Int) (items:List Z9):((ZU t&&ZU (Z7 items))=false->TK t p m items=(ZB,1))/\((ZU t&&ZU (Z7 items))=true->(ZK t p m).2≠0->TK t p m items=(ZB,(ZK t p m).2)) /\
  (∀rr ra rb,(ZU t&&ZU (Z7 items))=true->ZK t p m=((rr,ra,rb),0)->TK t p m items=YE t p m ((if ra<rb then [Zf rr ra (Yk t rr ra rb).1] else [])++if items.length=0 then [] else [Yw rr ra items]) (rr++[ra+items.length]) []):=by
 refine⟨fun h=>?_,fun h h2=>?_,fun rr ra rb h h1=>?_⟩
 ·unfold TK;rw[if_pos h]
 ·unfold TK;rw[if_neg (by simp[h]),if_pos h2]
 have h2:=(zN4 (t:=t) (p:=p) (m:=m) (by rw[h1])).2;have h3:=(Wt (t:=t) (p:=p) (m:=m) (by rw[h1]));obtain⟨_,_,_,f1,f2,f3,f4⟩:=h3;rw[h1] at h2 f3;simp only at h2 f3;unfold TK WW;rw[if_neg (by simp[h]),h1];simp only;rw[if_neg (by simp)];have e:(if (Yk t rr ra rb).1.length=0 then [] else [Zf rr ra (Yk t rr ra rb).1])=(if ra<rb then [Zf rr ra (Yk t rr ra rb).1] else []):=by
  by_cases aa:ra<rb
  ·rw[if_pos aa,if_neg (by omega)]
  rw[if_neg aa,if_pos (by omega)]
 rw[e];rfl
theorem zTz (t:Z9) (p m:List Int) (items:List Z9) (A Ap Am An:Option Addr) (cap cp cm cn:Nat) (w:World) (hv:Z8 Z6 w (Lt w.heap.size) t.kids (.slice A t.kids.length cap)) (aM:Zk t) (bQ:ZR t<=900000) (hp:Z0 w (Lt w.heap.size) p (.slice Ap p.length cp)) (hm:Z0 w (Lt w.heap.size) m (.slice Am m.length cm)) (bJ:p.length<=90000) (bL:m.length<=90000) (hi:Z8 Z6 w (Lt w.heap.size) items (.slice An items.length cn)) (bN:ZQ items<=900000) (bM:items.length<=900000) :
  Calls Tryz.prog 21 #[.agg #[.int .i64 t.kind,.string t.text,.int .i64 t.cols,.slice A t.kids.length cap],.agg #[.slice Ap p.length cp,.slice Am m.length cm],.slice An items.length cn] w (ZC w (TK t p m items)):=by
 obtain⟨W0,aD⟩:∃W0,((w.alloc (.cells #[.int .i64 t.kind,.string t.text,.int .i64 t.cols,.slice A t.kids.length cap] 24)).alloc (.cells #[.slice Ap p.length cp,.slice Am m.length cm] 27)).alloc (.cells #[.slice none 0 0,.slice none 0 0,.slice none 0 0,.slice none 0 0,.slice none 0 0] 35)=W0:=⟨_,rfl⟩;have bZ:Below w.heap.size w W0:=by rw[<-aD];exact Zy (Zy (ZW _ _) _) _
 have aT:Z5 W0 w.heap.size (.cells #[.int .i64 t.kind,.string t.text,.int .i64 t.cols,.slice A t.kids.length cap] 24):=by rw[<-aD];exact((Z5.at0 _ _).al _).al _
 have aS:Z5 W0 (w.heap.size+1) (.cells #[.slice Ap p.length cp,.slice Am m.length cm] 27):=by rw[<-aD];exact(Z5.at1 _ _ _).al _
 have aA:=hid aT;have az:=hid aS;have dh:Hid (Z5 W0 (w.heap.size+1+1) (.cells #[.slice none 0 0,.slice none 0 0,.slice none 0 0,.slice none 0 0,.slice none 0 0] 35)):=by show Z5 _ _ _;rw[<-aD];exact Z5.at2 _ _ _ _
 have aQ:=hid bZ;have av:Hid (∀W,Z5 W w.heap.size (.cells #[.int .i64 t.kind,.string t.text,.int .i64 t.cols,.slice A t.kids.length cap] 24)->Z5 W (w.heap.size+1) (.cells #[.slice Ap p.length cp,.slice Am m.length cm] 27)->W.cell? ⟨w.heap.size,0,none⟩=some (.int .i64 t.kind)/\W.cell? ⟨w.heap.size,1,none⟩=some (.string t.text)/\W.cell? ⟨w.heap.size,2,none⟩=some (.int .i64 t.cols)/\W.cell? ⟨w.heap.size,3,none⟩=some (.slice A t.kids.length cap)/\W.cell? ⟨w.heap.size+1,0,none⟩=some (.slice Ap p.length cp)/\W.cell? ⟨w.heap.size+1,1,none⟩=some (.slice Am m.length cm)):=fun W h1 h2=>⟨h1.cell 0,h1.cell 1,h1.cell 2,h1.cell 3,h2.cell 0,h2.cell 1⟩
 have CL:Hid (∀W,Below w.heap.size w W->Calls Tryz.prog 42 #[.agg #[.int .i64 t.kind,.string t.text,.int .i64 t.cols,.slice A t.kids.length cap],.agg #[.slice Ap p.length cp,.slice Am m.length cm]] W _):=fun W hW=>QB t p m A Ap Am cap cp cm W (hv.below hW hW.size) aM bQ (hp.below hW hW.size) (hm.below hW hW.size) bJ bL
 have CV:Hid (∀W,Below w.heap.size w W->Calls Tryz.prog 53 #[.agg #[.int .i64 t.kind,.string t.text,.int .i64 t.cols,.slice A t.kids.length cap]] W fun e w'=>e=.returned (.bool (ZU t))/\Below W.heap.size W w'):=fun W hW=>Wh t A cap W (hv.below hW hW.size) aM.2.2
 have CI:Hid (∀W,Below w.heap.size w W->Calls Tryz.prog 54 #[.slice An items.length cn] W (XA W (ZU (Z7 items)))):=fun W hW=>zJg items An cn W (hi.below hW hW.size)
 have HE:=hid (zTi t p m items);have aJ:=hid (Qh aM (Qh hi (Qh bN bM)));obtain⟨ae,aF⟩:∃ae,TK t p m items=ae:=⟨_,rfl⟩;rw[aF] at HE ⊢;obtain⟨m0,m1,m2,m3,n0,n1⟩:=av.out W0 aT aS;clear hv aM bQ hp hm bJ bL bZ aT aS aF hi bN bM;obtain⟨bv,ag⟩:∃bv,ZU t=bv:=⟨_,rfl⟩;obtain⟨bi,aj⟩:∃bi,ZU (Z7 items)=bi:=⟨_,rfl⟩;rw[ag] at CV HE;rw[aj] at CI HE;clear ag aj;go_enter Tryz.func21,Tryz.ntmps21
 go_wp2_with fail
 refine(CV.out _ aQ.out).mono ?_;rintro e wv ⟨rfl,ag⟩;have af:=hid (aQ.out.trans (ag.mono aQ.out.size));have aA:=hid (aA.out.below ag);have az:=hid (az.out.below ag);have HG:=hid (dh.out.below ag);clear ag m0 m1 m2 m3 n0 n1 aD dh CV;cases bv
 case false =>
  have HR:=hid (HE.out.1 rfl);clear HE CI
  go_wp2_with (first
   |(refine wpList_store_row rfl 35 (.tmp 6) (.tmp 19) rfl (w.heap.size+1+1) _ rfl rfl 35 _ HG.out (by kernel_rfl) (by simp) (by simp[Value.oneCell']) ?_)
   |fail)
  refine bodyPost_ret (v:=.tuple #[.agg #[.slice none 0 0,.slice none 0 0,.slice none 0 0,.slice none 0 0,.slice none 0 0],.int .i64 1]) (Y1 Tryz.results21 _ _ _ (w.heap.size+1+1) 35 _ (0,0) _ rfl (HG.out.row _) rfl Tryz.underlying35 (by kernel_rfl) _ rfl) rfl ?_;rw[HR.out];exact XI 1 (Y6 af.out (by omega) _)
 case true =>
 go_wp2_with fail
 refine(CI.out _ af.out).mono ?_;rintro e wi ⟨rfl,aj⟩;have af:=hid (af.out.trans (aj.mono af.out.size));have aA:=hid (aA.out.below aj);have az:=hid (az.out.below aj);have HG:=hid (HG.out.below aj);clear aj CI;cases bi
 case false =>
  have HR:=hid (HE.out.1 rfl);clear HE
  go_wp2_with (first
   |(refine wpList_store_row rfl 35 (.tmp 6) (.tmp 19) rfl (w.heap.size+1+1) _ rfl rfl 35 _ HG.out (by kernel_rfl) (by simp) (by simp[Value.oneCell']) ?_)
   |fail)
  refine bodyPost_ret (v:=.tuple #[.agg #[.slice none 0 0,.slice none 0 0,.slice none 0 0,.slice none 0 0,.slice none 0 0],.int .i64 1]) (Y1 Tryz.results21 _ _ _ (w.heap.size+1+1) 35 _ (0,0) _ rfl (HG.out.row _) rfl Tryz.underlying35 (by kernel_rfl) _ rfl) rfl ?_;rw[HR.out];exact XI 1 (Y6 af.out (by omega) _)
 case true =>
 obtain⟨m0,m1,m2,m3,n0,n1⟩:=av.out wi aA.out az.out
 go_wp2_with fail
 refine(CL.out _ af.out).mono ?_;rintro e w1 ⟨aW,h1⟩;have HG:=hid (HG.out.below aW);have af:=hid (af.out.trans (aW.mono af.out.size));clear aW m0 m1 m2 m3 n0 n1 CL aA az av aQ;rcases h1 with ⟨he,rfl⟩|⟨he,rr,Ar,cr,ra,rb,q,A1,o,its,Ai,ci,ar,q2,A2,c2,i,s,it,A3,c3,rfl,aB⟩
 ·have HR:=hid (HE.out.2.1 rfl he);have hse:((ZK t p m).2 != 0)=true:=by simp[he]
  clear HE he;generalize (ZK t p m).2=se at *
  go_upto_region 4 with (first
   |(refine wpList_store_row rfl 69 (.tmp 8) (.tmp 24) rfl w1.heap.size _ rfl rfl 69 _ (Z5.at0 _ _) (by kernel_rfl) (by simp) (by simp[Value.oneCell']) ?_)
   |fail)
  generalize hX:World.setRow _ _ _=X;have dF:Hid (Below w.heap.size w X):=by show Below _ _ _;rw[<-hX];exact Y6 (af.out.trans ((ZW w1 _).mono af.out.size)) af.out.size _
  have HG:Hid (Z5 X (w.heap.size+1+1) (.cells #[.slice none 0 0,.slice none 0 0,.slice none 0 0,.slice none 0 0,.slice none 0 0] 35)):=by show Z5 _ _ _;rw[<-hX];exact(setRow_other _ _ _ _ (Nat.ne_of_lt HG.out.lt)).trans (HG.out.al _)
  clear hX
  go_wp2_with (first
   |(refine wpList_store_row rfl 35 (.tmp 6) (.tmp 28) rfl (w.heap.size+1+1) _ rfl rfl 35 _ HG.out (by kernel_rfl) (by simp) (by simp[Value.oneCell']) ?_)
   |fail)
  refine bodyPost_ret (v:=.tuple #[.agg #[.slice none 0 0,.slice none 0 0,.slice none 0 0,.slice none 0 0,.slice none 0 0],.int .i64 se]) (Y1 Tryz.results21 _ _ _ (w.heap.size+1+1) 35 _ (0,0) _ rfl (HG.out.row _) rfl Tryz.underlying35 (by kernel_rfl) _ rfl) rfl ?_;rw[HR.out];exact XI se (Y6 dF.out (by omega) _)
 have aR:=aB.of;simp only at aR;have HR:=hid (HE.out.2.2 rr ra rb rfl aR);simp only[Vy];clear HE he aR
 go_upto_region 4 with (first
  |(refine wpList_store_row rfl 69 (.tmp 8) (.tmp 24) rfl w1.heap.size _ rfl rfl 69 _ (Z5.at0 _ _) (by kernel_rfl) (by simp) (by simp[Value.oneCell']) ?_)
  |fail)
 generalize hX:World.setRow _ _ _=X;have ax:Below w1.heap.size w1 X:=by rw[<-hX];exact Y6 (ZW w1 _) (Qi _) _
 have ay:Hid (Z5 X w1.heap.size (.cells #[.int .i64 t.kind,.string t.text,.int .i64 t.cols,.slice A t.kids.length cap,.slice Ap p.length cp,.slice Am m.length cm,.slice Ar rr.length cr,.int .i64 ra,.int .i64 rb,.slice A1 q.length cp,.int .i64 o,.slice Ai its.length ci,.bool ar,.slice A2 q2.length c2,.int .i64 i,.int .i64 s,.int .i64 it.kind,.string it.text,.int .i64 it.cols,.slice A3 it.kids.length c3] 69)):=by show Z5 _ _ _;rw[<-hX];exact(Z5.at0 w1 _).row _
 have dD:=hid (HG.out.below ax);have aX:=hid (af.out.trans (ax.mono af.out.size));have aN:=hid (aB.bl ax);have hf:=Tz aB;simp only at hf;have HF:=hid hf;clear hf;have cZ:=hid (aB.r.below ax ax.size);have dC:=hid (aJ.out.2.1.below aX.out aX.out.size);obtain⟨gs,bP⟩:∃gs,w1.heap.size=gs:=⟨_,rfl⟩;simp only[bP] at ay ⊢;clear hX ax aB bP HG af;have CC:Hid (∀W,Below X.heap.size X W->Calls Tryz.prog 46 #[.agg #[.int .i64 t.kind,.string t.text,.int .i64 t.cols,.slice A t.kids.length cap,.slice Ap p.length cp,.slice Am m.length cm,.slice Ar rr.length cr,.int .i64 ra,.int .i64 rb,.slice A1 q.length cp,.int .i64 o,.slice Ai its.length ci,.bool ar,.slice A2 q2.length c2,.int .i64 i,.int .i64 s,.int .i64 it.kind,.string it.text,.int .i64 it.cols,.slice A3 it.kids.length c3]] W (OpP (Lt X.heap.size) W (Zf rr ra (Yk t rr ra rb).1))):=fun W hW=>by have h9:=aN.out.bl hW;exact zVi (Lt X.heap.size) t rr ra rb A Ar cap cr _ _ _ _ _ _ _ _ _ _ _ _ _ W h9.tk aJ.out.1 h9.tct (aN.out.r.keep (fun r hr=>hW.cell hr) (fun k hk=>⟨Qk hk hW.size,hk⟩)) (YU (by have:=HF.out;omega)) (YU (by have:=HF.out;omega))
 have di:=hid (fun (W:World) (x0 x1 x2 x3 x4 x5 x6 x9 bG bD bC bB bA bz bu bq bn bg:Value)=>(zK4 x0 x1 x2 x3 x4 x5 x6 x9 bG bD bC bB bA bz bu bq bn bg ra rb W:Calls Tryz.prog 43 #[.agg #[x0,x1,x2,x3,x4,x5,x6,.int .i64 ra,.int .i64 rb,x9,bG,bD,bC,bB,bA,bz,bu,bq,bn,bg]] W (XA W (decide (ra<rb)))));obtain⟨l9,aU⟩:∃l9,(Yk t rr ra rb).1=l9:=⟨_,rfl⟩;have dB:Hid (ZQ l9<=1000):=by show _<=_;rw[<-aU];exact zH5 HF.out.1 rr ra rb
 rw[aU] at CC HR;clear aU;have au:=hid (show rr.length<=90000/\0<=ra/\ra<=rb/\rb<=1000 from by have:=HF.out;exact⟨by omega,by omega,by omega,by omega⟩);have dE:Hid (∀W B ops pos,BA X W B #[.int .i64 t.kind,.string t.text,.int .i64 t.cols,.slice A t.kids.length cap,.slice Ap p.length cp,.slice Am m.length cm,.slice Ar rr.length cr,.int .i64 ra,.int .i64 rb,.slice A1 q.length cp,.int .i64 o,.slice Ai its.length ci,.bool ar,.slice A2 q2.length c2,.int .i64 i,.int .i64 s,.int .i64 it.kind,.string it.text,.int .i64 it.cols,.slice A3 it.kids.length c3] ops pos []->ops.length<=1000->Calls Tryz.prog 48 #[.pointer (some ⟨B,0,none⟩)] W (ZC X (YE t p m ops pos []))):=fun W B ops pos hb hl=>RD aN.out hb.below hb hl
 clear HF aN;obtain⟨bl,aV⟩:∃bl,decide (ra<rb)=bl:=⟨_,rfl⟩;rw[aV] at di;have hq:(if ra<rb then [Zf rr ra l9] else [])=(if bl=true then [Zf rr ra l9] else []):=by
  rw[<-aV];by_cases h:ra<rb<;>simp[h]
 rw[hq] at HR;clear hq aV
 go_upto_region 7 with (first
  |(refine wpList_load_row rfl 69 (.tmp 8) rfl gs rfl 69 _ (0,0) _ ay.out Tryz.underlying69 rfl (by kernel_rfl) ?_)
  |(go_at_call 44;refine Calls.mono (Wx _ _ _ _ _ _ _ _ _ _ _ _ _ _ _ _ _ _ _ _ X _ (Qg _ _)) ?_;rintro e wb ⟨B,F,rfl,ah,_⟩;have HB:=hid ah;clear ah)
  |fail)
 have HS:=hid (ay.out.below HB.out.below)
 go_upto_if 33 with (first
  |(refine wpList_load_row rfl 69 (.tmp 8) rfl gs rfl 69 _ (0,0) _ HS.out Tryz.underlying69 rfl (by kernel_rfl) ?_)
  |(go_at_call 43;refine Calls.mono (di.out _ _ _ _ _ _ _ _ _ _ _ _ _ _ _ _ _ _ _) ?_;rintro e w2 ⟨rfl,bY⟩;have HB:=hid (HB.out.bl bY);clear bY)
  |fail)
 have HS:=hid (ay.out.below HB.out.below);cases bl
 case' true =>
  go_upto_region 9 with (first
   |(refine wpList_load_row rfl 69 (.tmp 8) rfl gs rfl 69 _ (0,0) _ HS.out Tryz.underlying69 rfl (by kernel_rfl) ?_)
   |(go_at_call 46;refine Calls.mono (CC.out _ HB.out.below) ?_;rintro e w3 ⟨Ar9,cr9,An9,cn9,rfl,bI,bK,bW⟩;have df:=hid (Qh bI bK);have HB:=hid (HB.out.bl bW);clear bI bK bW)
   |(go_at_call 45;refine Calls.mono (XO HB.out (Zf rr ra l9) _ _ _ _ (by simp) (df.out.1.keep (fun _ _=>rfl) (fun k hk=>hk.1)) (df.out.2.keep (fun _ _=>rfl) (fun k hk=>hk.1)) (Qf au.out.1 (by decide)) (Qf dB.out (by decide)) (by simp[Zf,Z4]) (YU (by have:=au.out;simp only[Zf];omega)) (by simp[Zf,Z4]) (by simp[Zf,Z4]) (Qj _) (Qj _)) ?_;rintro e w4 ⟨F2,rfl,ah,_⟩;have HB:=hid ah;clear ah)
   |fail)
  have HB:Hid (BS X w4 F2 B #[.int .i64 t.kind,.string t.text,.int .i64 t.cols,.slice A t.kids.length cap,.slice Ap p.length cp,.slice Am m.length cm,.slice Ar rr.length cr,.int .i64 ra,.int .i64 rb,.slice A1 q.length cp,.int .i64 o,.slice Ai its.length ci,.bool ar,.slice A2 q2.length c2,.int .i64 i,.int .i64 s,.int .i64 it.kind,.string it.text,.int .i64 it.cols,.slice A3 it.kids.length c3] [Zf rr ra l9]):=HB;have HR:Hid (ae=YE t p m ([Zf rr ra l9]++if items.length=0 then [] else [Yw rr ra items]) (rr++[ra+items.length]) []):=HR;have aI:Hid ([Zf rr ra l9].length<=1):=Qi _;generalize [Zf rr ra l9]=aa at *;generalize F2=F at *;generalize w4=w9 at *
 case' false =>
  go_upto_region 9 with fail
  obtain⟨aa,h1⟩:∃aa:List ZL,aa=[]:=⟨_,rfl⟩;have HB:Hid (BS X w2 F B #[.int .i64 t.kind,.string t.text,.int .i64 t.cols,.slice A t.kids.length cap,.slice Ap p.length cp,.slice Am m.length cm,.slice Ar rr.length cr,.int .i64 ra,.int .i64 rb,.slice A1 q.length cp,.int .i64 o,.slice Ai its.length ci,.bool ar,.slice A2 q2.length c2,.int .i64 i,.int .i64 s,.int .i64 it.kind,.string it.text,.int .i64 it.cols,.slice A3 it.kids.length c3] aa):=by rw[h1];exact HB
  have HR:Hid (ae=YE t p m (aa++if items.length=0 then [] else [Yw rr ra items]) (rr++[ra+items.length]) []):=by rw[h1];exact HR
  have aI:Hid (aa.length<=1):=by rw[h1];exact Qj _
  clear h1;generalize w2=w9 at *
 all_goals
  have HS:=hid (ay.out.below HB.out.below);have s6:w9.cell? ⟨gs,6,none⟩=some (.slice Ar rr.length cr):=HS.out.cell 6;have s7:w9.cell? ⟨gs,7,none⟩=some (.int .i64 ra):=HS.out.cell 7;have v1:IntKind.i64.wrap (ra+(items.length:Int))=ra+(items.length:Int):=by have:=au.out;have:=aJ.out.2.2.2;exact IntWalk.i64_in _ (by omega)
  have dA:Hid (rr.length+[ra+(items.length:Int)].length<=100000):=by have:=au.out;show rr.length+1<=_;omega
  have dH:Hid (∀i∈[ra+(items.length:Int)],Z4 i):=fun i hi=>by rw[List.mem_singleton.1 hi];have:=au.out;have:=aJ.out.2.2.2;exact YU (by omega)
  rcases Nat.eq_zero_or_pos items.length with hz|hz
  case' inl =>
   have i5:decide ((0:Int)<(items.length:Int))=false:=by rw[decide_eq_false_iff_not];omega
   have dz:decide (0<items.length)=false:=by rw[decide_eq_false_iff_not];omega
   have aP:Hid (ae=YE t p m aa (rr++[ra+items.length]) []/\aa.length<=2):=⟨HR.out.trans (by rw[if_pos hz,List.append_nil]),Qf aI.out (by decide)⟩;clear hz HR
   go_upto_region 11 with fail
  case' inr =>
   have i5:decide ((0:Int)<(items.length:Int))=true:=by rw[decide_eq_true_eq];omega
   have dz:decide (0<items.length)=true:=by rw[decide_eq_true_eq];omega
   have aP:Hid (ae=YE t p m (aa++[Yw rr ra items]) (rr++[ra+items.length]) []/\(aa++[Yw rr ra items]).length<=2):=⟨HR.out.trans (by rw[if_neg (by omega)]),by have:=aI.out;simp;omega⟩;clear hz HR;have bH:=dC.out.below HB.out.below HB.out.below.size;have aC:=cZ.out.below HB.out.below HB.out.below.size;have cO:=hid bH;have aO:=hid aC;clear bH aC
   go_upto_region 11 with (first
    |(go_at_call 45;refine Calls.mono (XO HB.out (Yw rr ra items) Ar An cr cn (Qf aI.out (by decide)) aO.out cO.out (Qf au.out.1 (by decide)) (Qf aJ.out.2.2.1 (by decide)) (by simp[Yw,Z4]) (YU (by have:=au.out;simp only[Yw];omega)) (by simp[Yw,Z4]) (by simp[Yw,Z4]) (Qj _) (Qj _)) ?_;rintro e w8 ⟨F2,rfl,ah,_⟩;have HB:=hid ah;clear ah)
    |fail)
   generalize aa++[Yw rr ra items]=dx at HB aP;clear s6 s7 HS cO aO aI;have HS:=hid (ay.out.below HB.out.below);have s6:w8.cell? ⟨gs,6,none⟩=some (.slice Ar rr.length cr):=HS.out.cell 6;have s7:w8.cell? ⟨gs,7,none⟩=some (.int .i64 ra):=HS.out.cell 7
  all_goals
   have aC:=cZ.out.below HB.out.below HB.out.below.size;have aO:=hid aC;clear aC
   go_wp2_with (first
    |(go_at_call 47;refine Calls.mono (XN (HB.out.bl (ZW _ _)) rr [ra+(items.length:Int)] Ar _ cr _ (aO.out.below (ZW _ _) (ZW _ _).size) (TZ _ [ra+(items.length:Int)] _ dH.out (by simp[maxLen])) dA.out) ?_;rintro e w5 ⟨rfl,bU⟩;have dG:=hid bU;clear bU)
    |(go_at_call 48;refine Calls.mono (dE.out _ _ _ _ dG.out (Qf aP.out.2 (by decide))) ?_;rintro e wk ak;rw[<-aP.out.1] at ak;have aY:=hid ak;obtain⟨dn,cB,dm,cu,dw,cK,aK,aG,aL,aH,rfl,_,_,_,_,_,bR⟩:=ak;have aZ:=hid (dD.out.below bR);clear bR)
    |(refine wpList_store_row rfl 35 (.tmp 6) (.tmp 64) rfl (w.heap.size+1+1) #[.slice dn ae.1.ops.length cB,.slice dm ae.1.bp.length cu,.slice dw ae.1.bm.length cK,.slice aK ae.1.ap.length aG,.slice aL ae.1.am.length aH] rfl rfl 35 _ aZ.out (by kernel_rfl) (by simp) (by simp[Value.oneCell']) ?_)
    |fail)
   refine bodyPost_ret (v:=.tuple #[.agg #[.slice dn ae.1.ops.length cB,.slice dm ae.1.bp.length cu,.slice dw ae.1.bm.length cK,.slice aK ae.1.ap.length aG,.slice aL ae.1.am.length aH],.int .i64 ae.2]) (Y1 Tryz.results21 _ _ _ (w.heap.size+1+1) 35 _ (0,0) _ rfl (aZ.out.row _) rfl Tryz.underlying35 (by kernel_rfl) _ rfl) rfl ?_;exact ZC.put (arr:=#[]) aY.out aZ.out (ZY.setRow _ _ _) (size_setRow _ _ _) aX.out (by omega)
def V9 (t:Z9) (p m:List Int) (r:Ze×Int):Prop:=(r.2≠0->r.1=ZB)/\(r.2=0->∃m',YB t r.1.ops=(m',0)/\ZU m'=true/\ZO m' r.1.ap=true/\(r.1.am=[]\/ZO m' r.1.am=true)/\r.1.bp=p/\r.1.bm=m/\QV r.1.ops)
theorem Xr {t:Z9} {p m:List Int} {e:Int} (h:e≠0):V9 t p m (ZB,e):=⟨fun _=>rfl,fun h2=>absurd h2 h⟩
theorem zUv {op:ZL} (h:Zb op=true):ZQ op.nodes<=1000:=zLu h
theorem zSo:∀(ops:List ZL) (t m:Z9),YF t ops=(m,0)->∀k (hk:k<ops.length),ZQ ops[k].nodes<=100000
 |[],_,_,_,k,hk=>by simp at hk
 |
  op::ops,t,m,h,k,hk=>by
  simp only[YF] at h;by_cases he:(Zw t op).2=0
  ·rw[if_neg (by simp[he])] at h;have ha:Zw t op=((Zw t op).1,0):=by rw[<-he]
   match k with
   |0=>exact Qf (zUv (zSc ha).2.2.1) (by decide)
   |k+1=>exact zSo ops _ m h k (by simpa using hk)
  rw[if_pos he] at h;injection h with _ h
  exact absurd h he
theorem TU {t:Z9} {p m ap am:List Int} {ops:List ZL} (hl:ops.length<=1000) (h:∀m',YB t ops=(m',0)->ZO m' ap=true/\(am=[]\/ZO m' am=true)):V9 t p m (YE t p m ops ap am):=by
 unfold YE;by_cases he:(YB t ops).2=0
 ·rw[if_pos he];have ha:YB t ops=((YB t ops).1,0):=by rw[<-he]
  obtain⟨hv,hg⟩:=QX ha;obtain⟨h1,h2⟩:=h _ ha;exact⟨fun h9=>absurd rfl h9,fun _=>⟨_,ha,zUa ops t _ hv hg,h1,h2,rfl,rfl,hl,zSo ops t _ hg⟩⟩
 rw[if_neg he];exact Xr (by decide)
theorem zS8 (t:Z9) (p m:List Int) (ops:List ZL) (pos:List Int):WJ t p m ops pos=YE t p m ops pos []:=rfl
theorem zR9 {t m:Z9} {op:ZL} (h:Zw t op=(m,0)):∃l' a,WS (ZP t op.row).1.kids l' op a/\∀q,ZO m (op.row++q)=ZO (Z7 l') q:=by
 obtain⟨hv,hvm,hf,hfm,l',a,rfl,hd⟩:=zUc h;refine⟨l',a,hd,fun q=>?_⟩;have h9:=zR7 op.row t l' [] hf;rw[List.append_nil] at h9;have h8:(ZP (ZV t op.row l') op.row).2=true:=by rw[h9];rfl
 rw[QI _ _ q h8,h9];rfl
theorem zTt {t m:Z9} {rr:List Int} {a:Int} {l:List Z9} (h:Zw t (Zf rr a l)=(m,0)):ZO m (rr++[a])=true:=by
 obtain⟨l',a',hd,hq⟩:=zR9 h;have e:a=(a':Int):=hd.at_;obtain⟨h1,h2⟩:=hd.del rfl;have h3:=hq [a];simp only[Zf] at h1 h2 h3;rw[h3,XJ,e,h2,YM (by omega)];simp;omega
theorem zVa {t m:Z9} {rr:List Int} {a:Int} {l:List Z9} (h:Zw t (Yw rr a l)=(m,0)):ZO m (rr++[a+l.length])=true:=by
 obtain⟨l',a',hd,hq⟩:=zR9 h;have e:a=(a':Int):=hd.at_;obtain⟨h1,h2⟩:=hd.ins rfl;have h3:=hq [a+l.length];simp only[Yw] at h1 h2 h3;rw[h3,XJ,e,h2,YM (by omega)];omega
theorem zSx {t m:Z9} {rr:List Int} {a s o:Int} {x:Z9} {l:List Z9} (h:Zw t (Yw rr a (x::l))=(m,0)) (hs:0<=s/\s.toNat<x.kids.length) (ho:ZO (ZZ x s) [o]=true):ZO m (rr++[a,s,o])=true:=by
 obtain⟨l',a',hd,hq⟩:=zR9 h;have e:a=(a':Int):=hd.at_;obtain⟨h1,h2⟩:=hd.ins rfl;have h3:=hq [a,s,o];simp only[Yw] at h1 h2 h3;have h4:Zc l' a'=x:=by rw[h2];have:=QL (l:=(ZP t rr).1.kids) (bs:=x::l) (a:=a') (b:=a') (i:=0) h1 (by simp);simpa using this
 rw[h3,e,VY,h4];refine⟨?_,hs,ho⟩;rw[h2,YM h1];simp;omega
theorem Tq {t m:Z9} {op:ZL} (hk:op.kind=4) (h:Zw t op=(m,0)):ZO m (op.row++[op.at_])=true/\ZO m (op.row++[op.at_+op.n])=true:=by
 obtain⟨l',a',hd,hq⟩:=zR9 h;have e:op.at_=(a':Int):=hd.at_;obtain⟨h1,h2,h3,_⟩:=hd.unw hk;rw[hq,hq,XJ,XJ,e,h2,YM (by omega)];omega
theorem Vb {t m:Z9} {op:ZL} {l':List Z9} (aa:ZP m op.row=(Z7 l',true)) (q:List Int):ZO m (op.row++q)=ZO (Z7 l') q:=by
 rw[QI _ _ q (by rw[aa]),aa]
theorem Vd {t m:Z9} {rr:List Int} {a n:Int} {item:Z9} {slot:Int} (h:Zw t (Yj rr a n [item] slot)=(m,0)):ZO m (rr++[a+1])=true/\∀s:Int,0<=s->s<(item.kids.length:Int)->ZO m (rr++[a,s,0])=true:=by
 obtain⟨_,_,aa,hf,l2,hc,hm,ah⟩:=zSc h;have hq:=Vb (t:=t) ah;have hn:0<=n:=by
  unfold Zb Yj at aa;simp only at aa;rw[if_neg (by decide),if_pos (by decide)] at aa;simp only[Bool.and_eq_true,decide_eq_true_eq] at aa;exact aa.1
 simp only[Yj] at hq hc;obtain⟨l,hl⟩:∃l,(ZP t rr).1.kids=l:=⟨_,rfl⟩;rw[hl] at hc;unfold ZH at hc;split at hc
 ·injection hc with _ hc;simp at hc
 rename_i hr;simp only[not_or,Int.not_lt,Y7] at hr;rw[if_neg (by decide),if_neg (by decide),if_pos trivial] at hr;simp only at hc hr;rw[if_neg (by decide),if_neg (by decide),if_pos trivial] at hc;obtain⟨a',rfl⟩:∃a':Nat,a=a':=⟨a.toNat,by omega⟩;obtain⟨n',rfl⟩:∃n':Nat,n=n':=⟨n.toNat,by omega⟩;injection hc with hc _
 rw[Int.toNat_natCast,show ((a':Int)+(n':Int)).toNat=a'+n' by omega] at hc;have ae:l2.length=l.length-n'+1:=by rw[<-hc,YM (by omega)];simp;omega
 have ag:Zc l2 a'=Zj item slot.toNat ((l.take (a'+n')).drop a'):=by rw[<-hc];exact zS6 (by omega)
 refine⟨?_,fun s h5 h6=>?_⟩
 ·rw[hq,XJ];omega
 rw[hq,VY,ag];have af:(Zj item slot.toNat ((l.take (a'+n')).drop a')).kids.length=item.kids.length:=by
  show (item.kids.set _ _).length=_;simp
 refine⟨by omega,⟨h5,by rw[af];omega⟩,?_⟩;rw[Tp];simp
theorem suf5 (op:ZL) (hk:op.kind=5):∀q,Xt op false q=q
 |[]=>rfl
 |
  [o]=>by
  simp only[Xt,Wu,hk];rw[if_neg (by simp),if_neg (by simp),if_neg (by simp),if_neg (by simp),if_neg (by simp)]
 |[i,s]=>rfl
 |
  i::s::y::r=>by
  simp only[Xt,Wp,hk];split
  ·rfl
  rw[if_neg (by decide),if_neg (by decide),if_neg (by decide),if_neg (by simp),if_neg (by decide)];rfl
theorem zU9 {t m:Z9} {op:ZL} (hk:op.kind=5) (h:Zw t op=(m,0)) {p:List Int} (hp:ZO t p=true):ZO m p=true:=by
 have h1:=(zTo h false).1 p hp;rw[QC] at h1;by_cases hw:Xu p op.row=true
 ·obtain⟨q,rfl,_⟩:=zSl hw;rw[QD,suf5 op hk] at h1;exact h1
 rw[zVc (by simpa using hw)] at h1;exact h1
theorem VA {t:Z9} {p:List Int} {d:Int} (h:(Wv t p d).2=0):ZO t (Wv t p d).1=true:=by
 have aa:∀i,(TI (ZJ [] t) i).2=0->ZO t (TI (ZJ [] t) i).1=true:=fun i hi=>by
  unfold TI at hi ⊢;split at hi
  ·rename_i h1;rw[if_pos h1];split at hi
   ·rename_i q hq;exact zKj.1 (List.mem_of_getElem? hq)
   cases hi
  cases hi
 unfold Wv at h ⊢;split at h
 ·rename_i hv;rw[if_pos hv];unfold RF at h ⊢;split at h
  ·rename_i i hi;split at h
   ·rename_i h2;rw[if_pos h2];exact aa _ h2
   cases h
  cases h
 cases h
theorem zSs {t:Z9} {p m:List Int} (h:(ZK t p m).2=0):Y5 t p=none\/∃q2 i,∃s':Nat,∃it its o,Y5 t p=some ⟨q2,i,(s':Int),it⟩/\p=q2++[i,(s':Int)]++[o]/\(∃h:s'<it.kids.length,it.kids[s']=Z7 its)/\0<=o/\o<=(its.length:Int):=by
 obtain⟨hv,hp,_⟩:=Wt h;by_cases hl:p.length<3
 ·left;unfold Y5;rw[if_pos hl]
 right;obtain⟨q,o,rfl⟩:∃q o,p=q++[o]:=⟨p.dropLast,p.getLast (by intro e;subst e;simp at hl),(List.dropLast_concat_getLast _).symm⟩;obtain⟨q2,i,s,rfl⟩:=zT2 (p:=q) (by simp at hl;omega);obtain⟨h4,hi,hk,h7,af,ae⟩:=QJ hp;obtain⟨s',rfl⟩:∃s':Nat,s=s':=⟨s.toNat,by omega⟩;have h8:=(R6 hp).1;have hr:=Rf hv h8;have aa:s'<(ZZ (ZP t q2).1 i).kids.length:=by simpa using hk.2
 refine⟨q2,i,s',_,(ZP t (q2++[i,(s':Int)])).1.kids,o,zUb hv hp,rfl,⟨aa,?_⟩,af,by rw[h7];exact ae⟩;have h1:ZZ (ZZ (ZP t q2).1 i) (s':Int)=(ZZ (ZP t q2).1 i).kids[s']:=by
  rw[Yi (t:=ZZ (ZP t q2).1 i) (by simpa using aa)];simp
 rw[<-hr,h7];exact h1.symm
theorem zT0 {t m:Z9} {a b:ZL} (h:YB t [a,b]=(m,0)):∃u,Zw t a=(u,0)/\Zw u b=(m,0):=by
 obtain⟨hv,h⟩:=QX h;simp only[YF] at h;by_cases he:(Zw t a).2=0
 ·rw[if_neg (by simp[he])] at h;refine⟨(Zw t a).1,by rw[<-he],?_⟩;by_cases h2:(Zw (Zw t a).1 b).2=0
  ·rw[if_neg (by simp[h2])] at h;injection h with h _
   rw[<-h,<-h2]
  rw[if_pos h2] at h;injection h with _ h
  exact absurd h h2
 rw[if_pos he] at h;injection h with _ h
 exact absurd h he
theorem zT1 {t m:Z9} (h:YB t []=(m,0)):m=t:=by
 obtain⟨hv,h⟩:=QX h;simp only[YF] at h;injection h with h _
 exact h.symm
theorem Sg {t m:Z9} {a:ZL} (h:YB t [a]=(m,0)):Zw t a=(m,0):=Sd (QX h).1 h
theorem zT7 {t:Z9} {q:List Int} {o:Int} (hf:(ZP t q).2=true) (h:0<=o/\o<=(ZP t q).1.kids.length):ZO t (q++[o])=true:=by
 rw[QI _ _ _ hf,Tp];simpa using h
theorem zUk (t:Z9) (p m:List Int) (items:List Z9):V9 t p m (TK t p m items):=by
 obtain⟨h1,h2,h3⟩:=zTi t p m items;cases hb:(ZU t&&ZU (Z7 items)) with
 |false=>rw[h1 hb];exact Xr (by decide)
 |
  true =>
  by_cases he:(ZK t p m).2=0;rotate_left
  ·rw[h2 hb he];exact Xr he
  rcases hof:ZK t p m with ⟨⟨rr,ra,rb⟩,er⟩;rw[hof] at he;simp only at he;subst he;rw[h3 rr ra rb hb hof];obtain⟨hv,_,_,hf,f1,f2,f3⟩:=Wt (t:=t) (p:=p) (m:=m) (by rw[hof]);rw[hof] at hf f1 f2 f3;simp only at hf f1 f2 f3;refine TU ?_ fun m' hm=>⟨?_,.inl rfl⟩
  ·split<;>split<;>simp
  by_cases aa:ra<rb
  ·rw[if_pos aa] at hm;by_cases hz:items.length=0
   ·rw[if_pos hz] at hm;have h9:=zTt (Sg hm);rw[hz];simpa using h9
   rw[if_neg hz] at hm;obtain⟨u,_,h9⟩:=zT0 hm;exact zVa h9
  rw[if_neg aa] at hm;by_cases hz:items.length=0
  ·rw[if_pos hz] at hm;rw[zT1 hm,hz];simpa using zT7 hf ⟨f1,by omega⟩
  rw[if_neg hz] at hm;exact zVa (Sg hm)
theorem zU6 (t:Z9) (p m:List Int) (back:Bool):V9 t p m (WB t p m back):=by
 unfold WB;by_cases he:(ZK t p m).2=0;rotate_left
 ·rw[if_pos he];exact Xr he
 rw[if_neg (by simp[he])];obtain⟨hv,hp,_,hf,f1,f2,f3⟩:=Wt he;have aa:V9 t p m (Xa t p m back):=by
  unfold Xa;by_cases h:(Wv t p (if back=true then -1 else 1)).2=0
  ·rw[if_neg (by simp[h]),zS8];refine TU (by simp) fun m' hm=>⟨?_,.inl rfl⟩
   rw[zT1 hm];exact VA h
  rw[if_pos h];exact Xr h
 split
 ·rw[zS8];refine TU (by unfold WW;split<;>simp) fun m' hm=>⟨?_,.inl rfl⟩
  unfold WW at hm;split at hm
  ·rw[zT1 hm];exact zT7 hf ⟨f1,by omega⟩
  exact zTt (Sg hm)
 obtain⟨nx,ae⟩:∃nx,(if back=true then p.getLastD 0-1 else p.getLastD 0)=nx:=⟨_,rfl⟩;simp only[ae];split
 ·split
  ·rw[zS8];exact TU (by simp) fun m' hm=>⟨zTt (Sg hm),.inl rfl⟩
  exact aa
 split
 ·rename_i x hx;split
  ·rw[zS8];refine TU (by simp) fun m' hm=>⟨?_,.inl rfl⟩
   obtain⟨g1,g2⟩:=Tq (op:=YL x) rfl (Sg hm);cases back
   ·exact g2
   exact g1
  exact aa
 exact aa
theorem Vj (t:Z9) (p m:List Int) (item:Z9) (slot:Int):V9 t p m (TN t p m item slot):=by
 obtain⟨h1,h2,h3⟩:=zSu t p m item slot;cases hb:(ZU t&&Zb (Yj [] 0 0 [item] slot)) with
 |false=>rw[h1 hb];exact Xr (by decide)
 |
  true =>
  by_cases he:(ZK t p m).2=0;rotate_left
  ·rw[h2 hb he];exact Xr he
  rcases hof:ZK t p m with ⟨⟨rr,ra,rb⟩,er⟩;rw[hof] at he;simp only at he;subst he;rw[h3 rr ra rb hb hof];refine TU (by simp) fun m' hm=>⟨?_,.inl rfl⟩
  obtain⟨g1,g2⟩:=Vd (Sg hm);unfold posW;split
  ·rename_i s hs;have:=zVh _ _ _ _ _ hs;exact g2 s (by omega) (by omega)
  exact g1
theorem zUj (t:Z9) (p m:List Int):V9 t p m (TL t p m):=by
 obtain⟨h1,h2,h3⟩:=zS4 t p m;by_cases he:(ZK t p m).2=0;rotate_left
 ·rw[h1 he];exact Xr he
 rcases zSs he with ha|⟨q2,i,s',it,its,o,ha,hp,⟨hs,hk⟩,ho⟩
 ·rw[h2 he ha];exact Xr (by decide)
 rw[h3 q2 i s' it its he ha hs hk];refine TU (by simp) fun m' hm=>⟨?_,.inl rfl⟩
 have h9:=(zTo (Sg hm) false).1 p (Wt he).2.1;rwa[QC] at h9
theorem zU5 (t:Z9) (p m:List Int):V9 t p m (VZ t p m):=by
 obtain⟨h1,h2,h3⟩:=zSp t p m;by_cases he:(ZK t p m).2=0;rotate_left
 ·rw[h1 he];exact Xr he
 rcases zSs he with ha|⟨q2,i,s',it,its,o,ha,hp,⟨hs,hk⟩,ho⟩
 ·rw[h2 he ha];exact Xr (by decide)
 rcases hof:ZK t p m with ⟨⟨rr,ra,rb⟩,er⟩;rw[hof] at he;simp only at he;subst he;obtain⟨g1,g2⟩:=h3 rr ra rb q2 i s' it its o hof ha hp hs hk;by_cases hc:ra<rb\/(it.kind≠11/\it.kind≠10)
 ·rw[g1 hc];exact Xr (by decide)
 rw[(g2 hc).2];unfold zT4;refine TU (by split<;>simp) fun m' hm=>⟨?_,.inl rfl⟩
 have aa:∀u,Zw u (Yw q2 (i+1) [Z9.mk it.kind it.text 0 [Z7 (its.drop o.toNat)]])=(m',0)->ZO m' (q2++[i+1,0,0])=true:=fun u hu =>
  zSx hu ⟨Int.le_refl _,by simp[Z9.kids]⟩ (by
   show ZO (Z7 (its.drop o.toNat)) [0]=true;rw[XJ];omega)
 by_cases ae:o<(its.length:Int)
 ·rw[if_pos ae] at hm;obtain⟨u,_,h9⟩:=zT0 hm;exact aa u h9
 rw[if_neg ae] at hm;exact aa t (Sg hm)
theorem Tx (t:Z9) (p m:List Int) (text:ByteArray):V9 t p m (X7 t p m text):=by
 obtain⟨h1,h2⟩:=zTc t p m text;by_cases he:(ZK t p m).2=0;rotate_left
 ·rw[h1 he];exact Xr he
 obtain⟨hv,hp,ag,_⟩:=Wt he;rcases hof:ZK t p m with ⟨⟨rr,ra,rb⟩,er⟩;rw[hof] at he;simp only at he;subst he;obtain⟨q,o,ae⟩:∃q o,p=q++[o]:=by
  have aa:=Rv _ _ hp;exact⟨p.dropLast,p.getLast (by intro e;subst e;simp at aa),(List.dropLast_concat_getLast _).symm⟩
 obtain⟨g1,g2⟩:=h2 rr ra rb q o _ hof ae rfl;by_cases ho:o=0
 ·rw[g1 ho];exact Xr (by decide)
 have af:=hp;rw[ae] at af;obtain⟨hf,ho0,ho1⟩:=R6 af;have ah:(o-1).toNat<(ZM t q).1.kids.length:=by rw[TY hv hf];simp only;omega
 obtain⟨k1,k2⟩:=g2 (o-1).toNat ah (by omega);by_cases hc:XR (ZM t q).1.kids[(o-1).toNat].kind=true/\(ZM t q).1.kids[(o-1).toNat].text≠text
 ·rw[k1 hc];refine TU (by simp) fun m' hm=>?_
  have ha:=Sg hm;refine⟨zU9 rfl ha hp,?_⟩;rcases ag with h9|h9
  ·exact .inl (List.eq_nil_of_length_eq_zero h9)
  exact .inr (zU9 rfl ha h9)
 rw[k2 hc];exact Xr (by decide)
theorem zUd (z:Z9) (c s:Nat) (columns:Bool) (ts:List Z9) (k:Nat):∀n,k<=n->∃r,Zi z c s columns ts n=Zi z c s columns ts k++r
 |0,h=>⟨[],by rw[show k=0 by omega];simp⟩
 |
  n+1,h=>by
  rcases Nat.lt_or_ge n k with h1|h1
  ·exact⟨[],by rw[show k=n+1 by omega];simp⟩
  obtain⟨r,hr⟩:=zUd z c s columns ts k n h1;exact⟨r++(ts.getD n ZN::Va z c s columns n),by rw[Zi,hr,List.append_assoc]⟩
theorem Vi (t:Z9) (p m:List Int) (columns:Bool):V9 t p m (VM t p m columns):=by
 obtain⟨h1,h2,h3⟩:=zS3 t p m columns;by_cases he:(ZK t p m).2=0;rotate_left
 ·rw[h1 he];exact Xr he
 rcases zSs he with ha|⟨q2,i,s',it,its,o,ha,hp,⟨hs,hk⟩,ho⟩
 ·rw[h2 he ha];exact Xr (by decide)
 rcases hof:ZK t p m with ⟨⟨rr,ra,rb⟩,er⟩;rw[hof] at he;simp only at he;subst he;obtain⟨g1,g2⟩:=h3 rr ra rb q2 i s' it o hof ha hp hs;by_cases hc:it.kind=12;rotate_left
 ·rw[g1 hc];exact Xr (by decide)
 obtain⟨c,hcc,c1,c2,c3,c4,c5⟩:=g2 hc;rw[c5];refine TU (by simp) fun m' hm=>⟨?_,.inl rfl⟩
 obtain⟨u,_,h9⟩:=zT0 hm;obtain⟨r,hr⟩:=zUd (Z7 []) c s' columns it.kids (s'+1) it.kids.length (by omega);have e1:it.kids.getD s' ZN=Z7 its:=by rw[List.getD_eq_getElem?_getD,List.getElem?_eq_getElem hs,<-hk];rfl
 rw[Zi,e1] at hr;have aa:(Zi (Z7 []) c s' columns it.kids s').length=Xp c s' columns:=by
  have h8:=zVb c s' (by omega) columns it.kids (by omega);rw[zSr c s' (by omega)] at h8;have e:(it.kids.take s').length=s':=by simp;omega
  rwa[e,zSt (Z7 []) c s' columns it.kids s' s' (Qi _)] at h8
 refine zSx h9 ⟨by omega,?_⟩ ?_
 ·show (Xp c s' columns:Int).toNat<(Zi (Z7 []) c s' columns it.kids it.kids.length).length;rw[Int.toNat_natCast,hr];simp;omega
 have e2:ZZ (Z9.mk 12 Zz (if columns then (c:Int)+1 else (c:Int)) (Zi (Z7 []) c s' columns it.kids it.kids.length)) (Xp c s' columns:Int)=Z7 its:=by
  show (Zi (Z7 []) c s' columns it.kids it.kids.length).getD (Xp c s' columns:Int).toNat ZN=_;rw[Int.toNat_natCast,hr,<-aa,List.getD_eq_getElem?_getD,List.append_assoc,List.getElem?_append_right (Nat.le_refl _),Nat.sub_self];rfl
 rw[e2,XJ];exact ho
theorem zU0 (t:Z9) (p m:List Int) (A Ap Am:Option Addr) (cap cp cm:Nat) (w:World) (hv:Z8 Z6 w (Lt w.heap.size) t.kids (.slice A t.kids.length cap)) (dA:Zk t) (dE:ZR t<=900000) (hp:Z0 w (Lt w.heap.size) p (.slice Ap p.length cp)) (hm:Z0 w (Lt w.heap.size) m (.slice Am m.length cm)) (dz:p.length<=90000) (dC:m.length<=90000) :
  Calls Tryz.prog 25 #[.agg #[.int .i64 t.kind,.string t.text,.int .i64 t.cols,.slice A t.kids.length cap],.agg #[.slice Ap p.length cp,.slice Am m.length cm]] w (ZC w (VZ t p m)):=by
 obtain⟨W0,aJ⟩:∃W0,((w.alloc (.cells #[.int .i64 t.kind,.string t.text,.int .i64 t.cols,.slice A t.kids.length cap] 24)).alloc (.cells #[.slice Ap p.length cp,.slice Am m.length cm] 27)).alloc (.cells #[.slice none 0 0,.slice none 0 0,.slice none 0 0,.slice none 0 0,.slice none 0 0] 35)=W0:=⟨_,rfl⟩;have dI:Below w.heap.size w W0:=by rw[<-aJ];exact Zy (Zy (ZW _ _) _) _
 have bA:Z5 W0 w.heap.size (.cells #[.int .i64 t.kind,.string t.text,.int .i64 t.cols,.slice A t.kids.length cap] 24):=by rw[<-aJ];exact((Z5.at0 _ _).al _).al _
 have bz:Z5 W0 (w.heap.size+1) (.cells #[.slice Ap p.length cp,.slice Am m.length cm] 27):=by rw[<-aJ];exact(Z5.at1 _ _ _).al _
 have eF:=hid bA;have eD:=hid bz;have dO:Hid (Z5 W0 (w.heap.size+1+1) (.cells #[.slice none 0 0,.slice none 0 0,.slice none 0 0,.slice none 0 0,.slice none 0 0] 35)):=by show Z5 _ _ _;rw[<-aJ];exact Z5.at2 _ _ _ _
 have aY:=hid dI;have bN:Hid (∀W,Z5 W w.heap.size (.cells #[.int .i64 t.kind,.string t.text,.int .i64 t.cols,.slice A t.kids.length cap] 24)->Z5 W (w.heap.size+1) (.cells #[.slice Ap p.length cp,.slice Am m.length cm] 27)->W.cell? ⟨w.heap.size,0,none⟩=some (.int .i64 t.kind)/\W.cell? ⟨w.heap.size,1,none⟩=some (.string t.text)/\W.cell? ⟨w.heap.size,2,none⟩=some (.int .i64 t.cols)/\W.cell? ⟨w.heap.size,3,none⟩=some (.slice A t.kids.length cap)/\W.cell? ⟨w.heap.size+1,0,none⟩=some (.slice Ap p.length cp)/\W.cell? ⟨w.heap.size+1,1,none⟩=some (.slice Am m.length cm)):=fun W h1 h2=>⟨h1.cell 0,h1.cell 1,h1.cell 2,h1.cell 3,h2.cell 0,h2.cell 1⟩
 have CL:Hid (∀W,Below w.heap.size w W->Calls Tryz.prog 42 #[.agg #[.int .i64 t.kind,.string t.text,.int .i64 t.cols,.slice A t.kids.length cap],.agg #[.slice Ap p.length cp,.slice Am m.length cm]] W _):=fun W hW=>QB t p m A Ap Am cap cp cm W (hv.below hW hW.size) dA dE (hp.below hW hW.size) (hm.below hW hW.size) dz dC
 have HE:=hid (zSp t p m);obtain⟨af,aK⟩:∃af,VZ t p m=af:=⟨_,rfl⟩;rw[aK] at HE ⊢;obtain⟨m0,m1,m2,m3,n0,n1⟩:=bN.out W0 bA bz;clear hv dA dE hp hm dz dC dI bA bz aK;go_enter Tryz.func25,Tryz.ntmps25
 go_wp2_with fail
 refine(CL.out _ aY.out).mono ?_;rintro e w1 ⟨bD,h1⟩;have HG:=hid (dO.out.below bD);have aF:=hid (aY.out.trans (bD.mono aY.out.size));clear bD m0 m1 m2 m3 n0 n1 CL aY aJ dO eF eD;rcases h1 with ⟨he,rfl⟩|⟨he,rr,Ar,cr,ra,rb,q,A1,o,its,Ai,ci,ar,q2,A2,c2,i,s,it,A3,c3,rfl,aA⟩
 ·have HR:=hid (HE.out.1 he);have hse:((ZK t p m).2 != 0)=true:=by simp[he]
  clear HE he;generalize (ZK t p m).2=se at *
  go_upto_region 2 with (first
   |(refine wpList_store_row rfl 69 (.tmp 6) (.tmp 15) rfl w1.heap.size _ rfl rfl 69 _ (Z5.at0 _ _) (by kernel_rfl) (by simp) (by simp[Value.oneCell']) ?_)
   |fail)
  generalize hX:World.setRow _ _ _=X;have eP:Hid (Below w.heap.size w X):=by show Below _ _ _;rw[<-hX];exact Y6 (aF.out.trans ((ZW w1 _).mono aF.out.size)) aF.out.size _
  have HG:Hid (Z5 X (w.heap.size+1+1) (.cells #[.slice none 0 0,.slice none 0 0,.slice none 0 0,.slice none 0 0,.slice none 0 0] 35)):=by show Z5 _ _ _;rw[<-hX];exact(setRow_other _ _ _ _ (Nat.ne_of_lt HG.out.lt)).trans (HG.out.al _)
  clear hX
  go_wp2_with (first
   |(refine wpList_store_row rfl 35 (.tmp 4) (.tmp 19) rfl (w.heap.size+1+1) _ rfl rfl 35 _ HG.out (by kernel_rfl) (by simp) (by simp[Value.oneCell']) ?_)
   |fail)
  refine bodyPost_ret (v:=.tuple #[.agg #[.slice none 0 0,.slice none 0 0,.slice none 0 0,.slice none 0 0,.slice none 0 0],.int .i64 se]) (Y1 Tryz.results25 _ _ _ (w.heap.size+1+1) 35 _ (0,0) _ rfl (HG.out.row _) rfl Tryz.underlying35 (by kernel_rfl) _ rfl) rfl ?_;rw[HR.out];exact XI se (Y6 eP.out (by omega) _)
 have au:=aA.of;have bu:=aA.pe;simp only at au bu;have dB:(ZK t p m).2=0:=by rw[au]
 have bg:=hid aA.ar0;have aZ:=hid aA.ar1;simp only at bg aZ;have bJ:=hid (HE.out.2.1 dB);have bH:=hid (fun a b c d e=>HE.out.2.2 rr ra rb a b c d e o au);have dN:=hid bu;simp only[Vy];clear HE he dB au bu
 go_upto_region 2 with (first
  |(refine wpList_store_row rfl 69 (.tmp 6) (.tmp 15) rfl w1.heap.size _ rfl rfl 69 _ (Z5.at0 _ _) (by kernel_rfl) (by simp) (by simp[Value.oneCell']) ?_)
  |fail)
 generalize hX:World.setRow _ _ _=X;have aV:Below w1.heap.size w1 X:=by rw[<-hX];exact Y6 (ZW w1 _) (Qi _) _
 have aa:Hid (Z5 X w1.heap.size (.cells #[.int .i64 t.kind,.string t.text,.int .i64 t.cols,.slice A t.kids.length cap,.slice Ap p.length cp,.slice Am m.length cm,.slice Ar rr.length cr,.int .i64 ra,.int .i64 rb,.slice A1 q.length cp,.int .i64 o,.slice Ai its.length ci,.bool ar,.slice A2 q2.length c2,.int .i64 i,.int .i64 s,.int .i64 it.kind,.string it.text,.int .i64 it.cols,.slice A3 it.kids.length c3] 69)):=by show Z5 _ _ _;rw[<-hX];exact(Z5.at0 w1 _).row _
 have HG:=hid (HG.out.below aV);have aj:=hid (aF.out.trans (aV.mono aF.out.size));have aN:=hid (aA.bl aV);have hf:=Tz aA;simp only at hf;have HF:=hid hf;obtain⟨gs,dD⟩:∃gs,w1.heap.size=gs:=⟨_,rfl⟩;simp only[dD] at aa ⊢;clear hX aV aA dD aF hf;cases ar
 case false =>
  have HR:=hid (bJ.out (bg.out rfl));have aU:X.cell? ⟨gs,12,none⟩=some (.bool false):=aa.out.cell 12;clear bJ bH bg aZ
  go_wp2_with (first
   |(refine wpList_store_row rfl 35 (.tmp 4) (.tmp 24) rfl (w.heap.size+1+1) _ rfl rfl 35 _ HG.out (by kernel_rfl) (by simp) (by simp[Value.oneCell']) ?_)
   |fail)
  refine bodyPost_ret (v:=.tuple #[.agg #[.slice none 0 0,.slice none 0 0,.slice none 0 0,.slice none 0 0,.slice none 0 0],.int .i64 8]) (Y1 Tryz.results25 _ _ _ (w.heap.size+1+1) 35 _ (0,0) _ rfl (HG.out.row _) rfl Tryz.underlying35 (by kernel_rfl) _ rfl) rfl ?_;rw[HR.out];exact XI 8 (Y6 aj.out (by omega) _)
 case true =>
 have aU:X.cell? ⟨gs,12,none⟩=some (.bool true):=aa.out.cell 12;obtain⟨a1,df,a3,a4,s',rfl,a6,a7⟩:=aZ.out rfl;have aX:=hid (bH.out q2 i s' it its a1 (by have h1:=dN.out;rw[h1,a4]) a6 a7);have dP:=hid df;have ah:Hid (q.length<=90000/\q2.length<=90000/\0<=i/\i<=1000/\its.length<=1000/\0<=o/\o<=its.length/\ZQ its<=1000):=by
  have:=HF.out;exact⟨by omega,(HF.out.2.2.2.2.2.2.2.1 rfl).2.2,(HF.out.2.2.2.2.2.2.2.1 rfl).1,(HF.out.2.2.2.2.2.2.2.1 rfl).2.1,by omega,by omega,by omega,by omega⟩
 obtain⟨k,rfl⟩:∃k:Nat,o=(k:Int):=⟨o.toNat,by have:=ah.out;omega⟩;have hk:k<=its.length:=by have:=ah.out;omega
 have bL:=hid aN.out.q2;have HQ:=hid aN.out.q;have aP:=hid aN.out.its;simp only at bL HQ aP;have eO:Hid (∀w0 W B ops pos am,Below X.heap.size X W->BA w0 W B #[.int .i64 t.kind,.string t.text,.int .i64 t.cols,.slice A t.kids.length cap,.slice Ap p.length cp,.slice Am m.length cm,.slice Ar rr.length cr,.int .i64 ra,.int .i64 rb,.slice A1 q.length cp,.int .i64 (k:Int),.slice Ai its.length ci,.bool true,.slice A2 q2.length c2,.int .i64 i,.int .i64 (s':Int),.int .i64 it.kind,.string it.text,.int .i64 it.cols,.slice A3 it.kids.length c3] ops pos am->ops.length<=1000->Calls Tryz.prog 48 #[.pointer (some ⟨B,0,none⟩)] W (ZC w0 (YE t p m ops pos am))):=fun w0 W B ops pos am hW hb hl=>RD aN.out hW hb hl
 have ax:Hid (∀W,Below X.heap.size X W->Z5 W gs (.cells #[.int .i64 t.kind,.string t.text,.int .i64 t.cols,.slice A t.kids.length cap,.slice Ap p.length cp,.slice Am m.length cm,.slice Ar rr.length cr,.int .i64 ra,.int .i64 rb,.slice A1 q.length cp,.int .i64 (k:Int),.slice Ai its.length ci,.bool true,.slice A2 q2.length c2,.int .i64 i,.int .i64 (s':Int),.int .i64 it.kind,.string it.text,.int .i64 it.cols,.slice A3 it.kids.length c3] 69)):=fun W hW=>aa.out.below hW
 have aG:=hid (fun (W:World) (x0 x1 x2 x3 x4 x5 x6 x9 cK cB cu bZ bY bW bU bR bQ bP:Value)=>(zK4 x0 x1 x2 x3 x4 x5 x6 x9 cK cB cu bZ bY bW bU bR bQ bP ra rb W:Calls Tryz.prog 43 #[.agg #[x0,x1,x2,x3,x4,x5,x6,.int .i64 ra,.int .i64 rb,x9,cK,cB,cu,bZ,bY,bW,bU,bR,bQ,bP]] W (XA W (decide (ra<rb)))));have dU:=hid a4;clear bJ bH bg aZ HF aN a1 df a3 a4 a6 a7 dN;by_cases hc:ra<rb\/(it.kind≠11/\it.kind≠10)
 ·have HR:=hid (aX.out.1 hc);clear aX;by_cases aH:ra<rb
  ·have hd:decide (ra<rb)=true:=by simpa using aH
   rw[hd] at aG;clear hd aH hc
   go_wp2_with (first
    |(refine wpList_load_row rfl 69 (.tmp 6) rfl gs rfl 69 _ (0,0) _ aa.out Tryz.underlying69 rfl (by kernel_rfl) ?_)
    |fail)
   refine Calls.mono (aG.out _ _ _ _ _ _ _ _ _ _ _ _ _ _ _ _ _ _ _) ?_;rintro e w2 ⟨rfl,ag⟩;have ak:=hid ag;have az:w2.cell? ⟨gs,16,none⟩=some (.int .i64 it.kind):=(aa.out.below ag).cell 16;clear ag
   go_upto_region 7 with fail
   have HG:=hid (HG.out.below ak.out);have aj:=hid (aj.out.trans (ak.out.mono aj.out.size));clear ak az aU
   go_wp2_with (first
    |(refine wpList_store_row rfl 35 (.tmp 4) (.tmp 39) rfl (w.heap.size+1+1) _ rfl rfl 35 _ HG.out (by kernel_rfl) (by simp) (by simp[Value.oneCell']) ?_)
    |fail)
   refine bodyPost_ret (v:=.tuple #[.agg #[.slice none 0 0,.slice none 0 0,.slice none 0 0,.slice none 0 0,.slice none 0 0],.int .i64 7]) (Y1 Tryz.results25 _ _ _ (w.heap.size+1+1) 35 _ (0,0) _ rfl (HG.out.row _) rfl Tryz.underlying35 (by kernel_rfl) _ rfl) rfl ?_;rw[HR.out];exact XI 7 (Y6 aj.out (by omega) _)
  have hd:decide (ra<rb)=false:=by simpa using aH
  rw[hd] at aG;have bB:it.kind≠11/\it.kind≠10:=hc.resolve_left aH;have bG:(it.kind != 11)=true:=by simpa using bB.1
  have dM:(it.kind != 10)=true:=by simpa using bB.2
  clear hd aH hc bB
  go_wp2_with (first
   |(refine wpList_load_row rfl 69 (.tmp 6) rfl gs rfl 69 _ (0,0) _ aa.out Tryz.underlying69 rfl (by kernel_rfl) ?_)
   |fail)
  refine Calls.mono (aG.out _ _ _ _ _ _ _ _ _ _ _ _ _ _ _ _ _ _ _) ?_;rintro e w2 ⟨rfl,ag⟩;have ak:=hid ag;have az:w2.cell? ⟨gs,16,none⟩=some (.int .i64 it.kind):=(aa.out.below ag).cell 16;clear ag
  go_upto_region 7 with fail
  have HG:=hid (HG.out.below ak.out);have aj:=hid (aj.out.trans (ak.out.mono aj.out.size));clear ak az aU
  go_wp2_with (first
   |(refine wpList_store_row rfl 35 (.tmp 4) (.tmp 39) rfl (w.heap.size+1+1) _ rfl rfl 35 _ HG.out (by kernel_rfl) (by simp) (by simp[Value.oneCell']) ?_)
   |fail)
  refine bodyPost_ret (v:=.tuple #[.agg #[.slice none 0 0,.slice none 0 0,.slice none 0 0,.slice none 0 0,.slice none 0 0],.int .i64 7]) (Y1 Tryz.results25 _ _ _ (w.heap.size+1+1) 35 _ (0,0) _ rfl (HG.out.row _) rfl Tryz.underlying35 (by kernel_rfl) _ rfl) rfl ?_;rw[HR.out];exact XI 7 (Y6 aj.out (by omega) _)
 obtain⟨dm,hR⟩:=aX.out.2 hc;obtain⟨L,hL⟩:∃L,its.drop k=L:=⟨_,rfl⟩;have ek:its.length-k=L.length:=by rw[<-hL];simp
 obtain⟨A9,bq,hcut⟩:=TM Z6 Tryz.underlying22 Vw Ai its.length ci (k:Int) k rfl hk;rw[ek] at bq hcut;generalize ci-k=c9 at bq hcut;have aD:Hid (∀W,Below X.heap.size X W->Z8 Z6 W (Lt W.heap.size) L (.slice A9 L.length c9)):=fun W hW=>by
  have h9:=hcut W _ its (aP.out.below hW hW.size);rwa[hL] at h9
 have dQ:Hid (ZQ L<=1000/\L.length<=1000):=⟨by rw[<-hL];exact Qf (zD4 its k) ah.out.2.2.2.2.2.2.2,by have:=ah.out;omega⟩;obtain⟨IT,aW⟩:∃IT,Z9.mk it.kind it.text 0 [Z7 L]=IT:=⟨_,rfl⟩;have aQ:Hid (∀W g1 g2,Z5 W g1 (.cells #[.int .i64 1,.string Zz,.int .i64 0,.slice A9 L.length c9] 24)->Z5 W g2 (.cells #[.int .i64 it.kind,.string it.text,.int .i64 0,.slice (some ⟨g1,0,none⟩) 1 1] 24)->Z8 Z6 W (Lt W.heap.size) L (.slice A9 L.length c9)->Z8 Z6 W (Lt W.heap.size) [IT] (.slice (some ⟨g2,0,none⟩) 1 1)):=fun W g1 g2 h1 h2 h3=>by
  rw[<-aW];exact zHs (E:=Z6) (cs:=[.int .i64 it.kind,.string it.text,.int .i64 0,.slice (some ⟨g1,0,none⟩) 1 1]) h2 (Yl.2 ⟨_,rfl,dP.out.1,by simp[Z4,Z9.cols],dP.out.2.2,zHs (E:=Z6) (cs:=[.int .i64 1,.string Zz,.int .i64 0,.slice A9 L.length c9]) h1 (Yl.2 ⟨_,rfl,by simp[Z4,Z7,Z9.kind],by simp[Z4,Z7,Z9.cols],Qj _,h3⟩) h1.lt⟩) h2.lt
 have aR:Hid (ZQ [IT]<=1000000):=by show _<=_;rw[<-aW];have:=dQ.out.1;simp[ZQ,ZR,Z7];omega
 have HR:Hid (af=YE t p m ((if (k:Int)<(its.length:Int) then [Zf q (k:Int) L] else [])++[Yw q2 (i+1) [IT]]) (q2++[i+1,0,0]) []):=by
  show af=_;rw[hR,zT4,Int.toNat_natCast,hL,aW,dU.out,dm];rfl
 have eG:Hid (it.kind=11\/it.kind=10):=by show _\/_;omega
 have hd:decide (ra<rb)=false:=by rw[decide_eq_false_iff_not];omega
 rw[hd] at aG;clear hc hR aX hd aW dU dm;obtain⟨bG,aI⟩:∃b,(it.kind != 11)=b:=⟨_,rfl⟩;have aC:bG=true->(it.kind != 10)=false:=fun h=>by rw[<-aI] at h;have h1:=eG.out;simp at h ⊢;omega
 cases bG
 case' true =>
  have dM:(it.kind != 10)=false:=aC rfl;clear aC
 case' false=>clear aC
 all_goals
  go_wp2_with (first
   |(refine wpList_load_row rfl 69 (.tmp 6) rfl gs rfl 69 _ (0,0) _ aa.out Tryz.underlying69 rfl (by kernel_rfl) ?_)
   |fail)
  refine Calls.mono (aG.out _ _ _ _ _ _ _ _ _ _ _ _ _ _ _ _ _ _ _) ?_;rintro e w2 ⟨rfl,ag⟩;have ak:=hid ag;have az:w2.cell? ⟨gs,16,none⟩=some (.int .i64 it.kind):=(aa.out.below ag).cell 16;clear ag
  go_upto_region 8 with fail
  have aa:=hid (aa.out.below ak.out);clear az aU aI
  try clear dM
  go_upto_region 9 with (first
   |(refine wpList_load_row rfl 69 (.tmp 6) rfl gs rfl 69 _ (0,0) _ aa.out Tryz.underlying69 rfl (by kernel_rfl) ?_)
   |(go_at_call 44;refine Calls.mono (Wx _ _ _ _ _ _ _ _ _ _ _ _ _ _ _ _ _ _ _ _ X _ ak.out) ?_;rintro e wb ⟨B,F,rfl,av,_⟩;have di:=(av.bl (Qg _ _)).below;have HB:=hid av;clear av)
   |fail)
  have aa:Hid (Z5 wb gs (.cells #[.int .i64 t.kind,.string t.text,.int .i64 t.cols,.slice A t.kids.length cap,.slice Ap p.length cp,.slice Am m.length cm,.slice Ar rr.length cr,.int .i64 ra,.int .i64 rb,.slice A1 q.length cp,.int .i64 (k:Int),.slice Ai its.length ci,.bool true,.slice A2 q2.length c2,.int .i64 i,.int .i64 (s':Int),.int .i64 it.kind,.string it.text,.int .i64 it.cols,.slice A3 it.kids.length c3] 69)):=ax.out _ di;clear di;have bn:wb.cell? ⟨gs,10,none⟩=some (.int .i64 (k:Int)):=aa.out.cell 10;have d9:wb.cell? ⟨gs,11,none⟩=some (.slice Ai its.length ci):=aa.out.cell 11
  go_upto_region 10 with fail
  clear bn d9 bq;rcases Nat.eq_zero_or_pos L.length with hz|hz
  case' inl =>
   have i5:decide ((0:Int)<(L.length:Int))=false:=by rw[decide_eq_false_iff_not];omega
   have dh:decide (0<L.length)=false:=by rw[decide_eq_false_iff_not];omega
   obtain⟨ae,h1⟩:∃ae:List ZL,ae=[]:=⟨_,rfl⟩;have HB:Hid (BS X wb F B #[.int .i64 t.kind,.string t.text,.int .i64 t.cols,.slice A t.kids.length cap,.slice Ap p.length cp,.slice Am m.length cm,.slice Ar rr.length cr,.int .i64 ra,.int .i64 rb,.slice A1 q.length cp,.int .i64 (k:Int),.slice Ai its.length ci,.bool true,.slice A2 q2.length c2,.int .i64 i,.int .i64 (s':Int),.int .i64 it.kind,.string it.text,.int .i64 it.cols,.slice A3 it.kids.length c3] ae):=by rw[h1];exact HB
   have HR:Hid (af=YE t p m (ae++[Yw q2 (i+1) [IT]]) (q2++[i+1,0,0]) []):=by have h2:=HR.out;rw[if_neg (by omega)] at h2;rw[h1];exact h2
   have aO:Hid (ae.length<=1):=by rw[h1];exact Qj _
   clear h1 hz
   go_upto_region 12 with fail
   generalize wb=w9 at *;generalize F=F9 at *
  case' inr =>
   have i5:decide ((0:Int)<(L.length:Int))=true:=by rw[decide_eq_true_eq];omega
   have dh:decide (0<L.length)=true:=by rw[decide_eq_true_eq];omega
   have HR:Hid (af=YE t p m ([Zf q (k:Int) L]++[Yw q2 (i+1) [IT]]) (q2++[i+1,0,0]) []):=by have h2:=HR.out;rw[if_pos (by omega)] at h2;exact h2
   have s9:wb.cell? ⟨gs,9,none⟩=some (.slice A1 q.length cp):=aa.out.cell 9;have bn:wb.cell? ⟨gs,10,none⟩=some (.int .i64 (k:Int)):=aa.out.cell 10;clear hz
   go_upto_region 12 with (first
    |(go_at_call 45;refine Calls.mono (XO HB.out (Zf q (k:Int) L) A1 A9 cp c9 (by simp) (HQ.out.below HB.out.below HB.out.below.size) (aD.out _ HB.out.below) (Qf ah.out.1 (by decide)) (Qf dQ.out.1 (by decide)) (by simp[Zf,Z4]) (YU (by have:=ah.out;simp only[Zf];omega)) (by simp[Zf,Z4]) (by simp[Zf,Z4]) (Qj _) (Qj _)) ?_;rintro e w9 ⟨F9,rfl,av,_⟩;have HB:Hid (BS X w9 F9 B #[.int .i64 t.kind,.string t.text,.int .i64 t.cols,.slice A t.kids.length cap,.slice Ap p.length cp,.slice Am m.length cm,.slice Ar rr.length cr,.int .i64 ra,.int .i64 rb,.slice A1 q.length cp,.int .i64 (k:Int),.slice Ai its.length ci,.bool true,.slice A2 q2.length c2,.int .i64 i,.int .i64 (s':Int),.int .i64 it.kind,.string it.text,.int .i64 it.cols,.slice A3 it.kids.length c3] [Zf q (k:Int) L]):=hid av;clear av)
    |fail)
   have aO:Hid ([Zf q (k:Int) L].length<=1):=Qi _;generalize [Zf q (k:Int) L]=ae at HB HR aO;clear s9 bn
  all_goals
   have aa:=hid (ax.out _ HB.out.below);have az:w9.cell? ⟨gs,16,none⟩=some (.int .i64 it.kind):=aa.out.cell 16;have dZ:w9.cell? ⟨gs,17,none⟩=some (.string it.text):=aa.out.cell 17;clear i5 dh
   go_upto_region 13 with fail
   clear az dZ;generalize hY:World.alloc (World.alloc w9 _) _=Y;have dF:Below w9.heap.size w9 Y:=by rw[<-hY];exact Zy (ZW _ _) _
   have bC:Z5 Y w9.heap.size (.cells #[.int .i64 1,.string Zz,.int .i64 0,.slice A9 L.length c9] 24):=by rw[<-hY];exact(Z5.at0 _ _).al _
   have ay:Z5 Y (w9.heap.size+1) (.cells #[.int .i64 it.kind,.string it.text,.int .i64 0,.slice (some ⟨w9.heap.size,0,none⟩) 1 1] 24):=by rw[<-hY];exact Z5.at1 _ _ _
   clear hY;have HB:=hid (HB.out.bl dF);obtain⟨g1,dx⟩:∃g1,w9.heap.size=g1:=⟨_,rfl⟩;simp only[dx] at bC ay ⊢;obtain⟨g2,dw⟩:∃g2,g1+1=g2:=⟨_,rfl⟩;simp only[dw] at ay ⊢;have dR:=hid bC;have eH:=hid ay;have aa:=hid (ax.out _ HB.out.below);have y0:Y.cell? ⟨g2,0,none⟩=some (.int .i64 it.kind):=ay.cell 0;have y1:Y.cell? ⟨g2,1,none⟩=some (.string it.text):=ay.cell 1;have y2:Y.cell? ⟨g2,2,none⟩=some (.int .i64 0):=ay.cell 2;have y3:Y.cell? ⟨g2,3,none⟩=some (.slice (some ⟨g1,0,none⟩) 1 1):=ay.cell 3;have cZ:Y.cell? ⟨gs,13,none⟩=some (.slice A2 q2.length c2):=aa.out.cell 13;have cO:Y.cell? ⟨gs,14,none⟩=some (.int .i64 i):=aa.out.cell 14;have v1:IntKind.i64.wrap (i+1)=i+1:=by have:=ah.out;exact IntWalk.i64_in _ (by omega)
   clear bC ay dF dx dw
   go_upto_region 14 with (first
    |(go_at_call 45;refine Calls.mono (XO (HB.out.bl (ZW _ _)) (Yw q2 (i+1) [IT]) A2 _ c2 1 (Qf aO.out (by decide)) (bL.out.below (HB.out.bl (ZW _ _)).below (HB.out.bl (ZW _ _)).below.size) (aQ.out _ _ _ (dR.out.al _) (Z5.at0 _ _) (aD.out _ (HB.out.bl (ZW _ _)).below)) (Qf ah.out.2.1 (by decide)) aR.out (by simp[Yw,Z4]) (YU (by have:=ah.out;simp only[Yw];omega)) (by simp[Yw,Z4]) (by simp[Yw,Z4]) (Qj _) (Qj _)) ?_;rintro e w8 ⟨F8,rfl,av,_⟩;have HB:=hid av;clear av)
    |fail)
   clear y0 y1 y2 y3 cZ cO dR eH aQ aR aD;have bK:Hid (af=YE t p m (ae++[Yw q2 (i+1) [IT]]) (q2++[i+1,0,0]) []/\(ae++[Yw q2 (i+1) [IT]]).length<=2):=⟨HR.out,by have:=aO.out;simp;omega⟩;generalize ae++[Yw q2 (i+1) [IT]]=ed at HB bK;have eB:Hid (q2.length+[i+1,(0:Int),0].length<=100000):=by have:=ah.out;show q2.length+3<=_;omega
   have eQ:Hid (∀x∈[i+1,(0:Int),0],Z4 x):=fun x hx=>by have:=ah.out;simp at hx;exact YU (by omega)
   have aa:=hid (ax.out _ HB.out.below);have cZ:w8.cell? ⟨gs,13,none⟩=some (.slice A2 q2.length c2):=aa.out.cell 13;have cO:w8.cell? ⟨gs,14,none⟩=some (.int .i64 i):=aa.out.cell 14;have dn:=bL.out.below HB.out.below HB.out.below.size;have eu:=hid dn;clear dn HR aO
   go_wp2_with (first
    |(go_at_call 47;refine Calls.mono (XN (HB.out.bl (ZW _ _)) q2 [i+1,0,0] A2 _ c2 _ (eu.out.below (ZW _ _) (ZW _ _).size) (TZ _ [i+1,0,0] _ eQ.out (by simp[maxLen])) eB.out) ?_;rintro e w5 ⟨rfl,dH⟩;have dS:=hid dH;clear dH)
    |(go_at_call 48;refine Calls.mono (eO.out _ _ _ _ _ _ dS.out.below dS.out (Qf bK.out.2 (by decide))) ?_;rintro e wk aB;rw[<-bK.out.1] at aB;have bI:=hid aB;obtain⟨dX,dK,dV,dJ,dY,dL,aS,aL,aT,aM,rfl,_,_,_,_,_,dG⟩:=aB;have bM:=hid (HG.out.below dG);clear dG)
    |(refine wpList_store_row rfl 35 (.tmp 4) (.tmp 87) rfl (w.heap.size+1+1) #[.slice dX af.1.ops.length dK,.slice dV af.1.bp.length dJ,.slice dY af.1.bm.length dL,.slice aS af.1.ap.length aL,.slice aT af.1.am.length aM] rfl rfl 35 _ bM.out (by kernel_rfl) (by simp) (by simp[Value.oneCell']) ?_)
    |fail)
   refine bodyPost_ret (v:=.tuple #[.agg #[.slice dX af.1.ops.length dK,.slice dV af.1.bp.length dJ,.slice dY af.1.bm.length dL,.slice aS af.1.ap.length aL,.slice aT af.1.am.length aM],.int .i64 af.2]) (Y1 Tryz.results25 _ _ _ (w.heap.size+1+1) 35 _ (0,0) _ rfl (bM.out.row _) rfl Tryz.underlying35 (by kernel_rfl) _ rfl) rfl ?_;exact ZC.put (arr:=#[]) bI.out bM.out (ZY.setRow _ _ _) (size_setRow _ _ _) aj.out (by omega)
