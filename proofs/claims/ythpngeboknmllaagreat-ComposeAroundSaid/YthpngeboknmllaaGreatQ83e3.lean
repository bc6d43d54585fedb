/- T -/
import Derived.Test.YthpngeboknmllaaGreatQ3bf0
import Derived.Test.YthpngeboknmllaaGreatQe1a2
import Derived.Test.YthpngeboknmllaaGreatQ10d9
import Derived.Shelf.Abstract
set_option linter.unusedVariables false
set_option linter.unusedSimpArgs false
set_option maxHeartbeats 4000000
set_option maxRecDepth 100000
namespace Go.Proofs.YthpngeboknmllaaGreat
open Go.RowKit Go.Shelf
def WC (w:World) (B:Nat):Prop :=
 (w.cell? ⟨B,4,none⟩=some (.int .i64 0)/\w.cell? ⟨B,5,none⟩=some (.func (.func 121) #[] #[])) /\
 (w.cell? ⟨B,7,none⟩=some (.int .i64 0)/\w.cell? ⟨B,8,none⟩=some (.func (.func 122) #[] #[])) /\
 (w.cell? ⟨B,10,none⟩=some (.int .i64 0)/\w.cell? ⟨B,11,none⟩=some (.func (.func 123) #[] #[])) /\
 (w.cell? ⟨B,13,none⟩=some (.int .i64 0)/\w.cell? ⟨B,14,none⟩=some (.func (.func 124) #[] #[])) /\
 (w.cell? ⟨B,16,none⟩=some (.int .i64 2)/\w.cell? ⟨B,17,none⟩=some (.func (.func 121) #[] #[])) /\
 (w.cell? ⟨B,19,none⟩=some (.int .i64 2)/\w.cell? ⟨B,20,none⟩=some (.func (.func 121) #[] #[])) /\
 (w.cell? ⟨B,22,none⟩=some (.int .i64 2)/\w.cell? ⟨B,23,none⟩=some (.func (.func 121) #[] #[])) /\
 (w.cell? ⟨B,25,none⟩=some (.int .i64 2)/\w.cell? ⟨B,26,none⟩=some (.func (.func 121) #[] #[])) /\
 (w.cell? ⟨B,28,none⟩=some (.int .i64 3)/\w.cell? ⟨B,29,none⟩=some (.func (.func 121) #[] #[])) /\
 (w.cell? ⟨B,31,none⟩=some (.int .i64 1)/\w.cell? ⟨B,32,none⟩=some (.func (.func 125) #[] #[])) /\
 (w.cell? ⟨B,34,none⟩=some (.int .i64 1)/\w.cell? ⟨B,35,none⟩=some (.func (.func 126) #[] #[])) /\
 (w.cell? ⟨B,37,none⟩=some (.int .i64 0)/\w.cell? ⟨B,38,none⟩=some (.func (.func 121) #[] #[]))
theorem VY {P:Program} {f:FuncId} {args:Array Value} {W:World} {v:Value} (h:Calls P f args W fun e w'=>e=.returned v/\W=w'):Calls P f args W fun e w'=>e=.returned v/\∃n,w'=W.drewN n :=
 h.mono fun e w' ⟨h1,h2⟩=>⟨h1,0,by subst h2;rfl⟩
theorem zLo (k c:Int) (n:Nat) (h:k<1\/12<k):Zw k c n=false:=by
 unfold Zw;rw[if_neg (by omega)];split
 ·rfl
 rw[if_neg (by omega),if_neg (by omega),if_neg (by omega),if_neg (by omega),if_neg (by omega)]
theorem Uo (k c:Int) (s:ByteArray) (A:Option Addr) (n cap B g o:Nat) (w:World) (hn:n<=maxLen) (hs:s.size<=maxLen)
  (c0:w.cell? ⟨g,o,none⟩=some (.int .i64 k)) (c1:w.cell? ⟨g,o+1,none⟩=some (.string s)) (c2:w.cell? ⟨g,o+2,none⟩=some (.int .i64 c)) (c3:w.cell? ⟨g,o+3,none⟩=some (.slice A n cap))
  (hK:WC w B) :
  Calls Tryz.prog 127 #[.pointer (some ⟨B,0,none⟩),.pointer (some ⟨g,o,none⟩)] w fun e w'=>e=.returned (.bool (YT k s&&Zw k c n))/\∃n,w'=w.drewN n:=by
 by_cases h1:k<1
 ·rw[zLo k c n (.inl h1),Bool.and_false];have d1:decide (k<1)=true:=decide_eq_true h1;clear hK;go_enter Tryz.func127,Tryz.ntmps127
  go_wp2_with fail
  go_quiet (fail)
  go_wp2_with fail
  go_ret;exact⟨rfl,_,rfl⟩
 by_cases h2:12<k
 ·rw[zLo k c n (.inr h2),Bool.and_false];have d1:decide (k<1)=false:=decide_eq_false h1;have d2:decide (12<k)=true:=decide_eq_true h2;clear hK;go_enter Tryz.func127,Tryz.ntmps127
  go_wp2_with fail
  go_quiet (fail)
  go_wp2_with fail
  go_ret;exact⟨rfl,_,rfl⟩
 have hk:k=1\/k=2\/k=3\/k=4\/k=5\/k=6\/k=7\/k=8\/k=9\/k=10\/k=11\/k=12:=by omega
 obtain⟨⟨a1,b1⟩,⟨a2,b2⟩,⟨a3,b3⟩,⟨a4,b4⟩,⟨a5,b5⟩,⟨a6,b6⟩,⟨a7,b7⟩,⟨a8,b8⟩,⟨a9,b9⟩,⟨ai,af⟩,⟨ah,ae⟩,⟨ag,aa⟩⟩:=hK;rcases hk with rfl|rfl|rfl|rfl|rfl|rfl|rfl|rfl|rfl|rfl|rfl|rfl
 ·exact Rt c s A n cap B g o (YT 1 s) w hn c0 c1 c2 c3 a1 b1 (hid fun W=>VY (SI s W))
 ·exact UO 2 122 0 (by show _/\_;omega) (hid fun n=>by unfold Zw;simp) (enters_of Tryz.func122 (by kernel_rfl) rfl) (by decide) (by decide) (by decide) (by decide) (by decide) (by decide) (by decide) c s A n cap B g o (YT 2 s) w hn c0 c1 c2 c3 a2 b2 (hid fun W=>VY (zP8 s W hs))
 ·exact UO 3 123 0 (by show _/\_;omega) (hid fun n=>by unfold Zw;simp) (enters_of Tryz.func123 (by kernel_rfl) rfl) (by decide) (by decide) (by decide) (by decide) (by decide) (by decide) (by decide) c s A n cap B g o (YT 3 s) w hn c0 c1 c2 c3 a3 b3 (hid fun W=>zP9 s W hs)
 ·exact UO 4 124 0 (by show _/\_;omega) (hid fun n=>by unfold Zw;simp) (enters_of Tryz.func124 (by kernel_rfl) rfl) (by decide) (by decide) (by decide) (by decide) (by decide) (by decide) (by decide) c s A n cap B g o (YT 4 s) w hn c0 c1 c2 c3 a4 b4 (hid fun W=>VY (Ut s W hs))
 ·exact UO 5 121 2 (by show _/\_;omega) (hid fun n=>by unfold Zw;simp) (enters_of Tryz.func121 (by kernel_rfl) rfl) (by decide) (by decide) (by decide) (by decide) (by decide) (by decide) (by decide) c s A n cap B g o (YT 5 s) w hn c0 c1 c2 c3 a5 b5 (hid fun W=>VY (SI s W))
 ·exact UO 6 121 2 (by show _/\_;omega) (hid fun n=>by unfold Zw;simp) (enters_of Tryz.func121 (by kernel_rfl) rfl) (by decide) (by decide) (by decide) (by decide) (by decide) (by decide) (by decide) c s A n cap B g o (YT 6 s) w hn c0 c1 c2 c3 a6 b6 (hid fun W=>VY (SI s W))
 ·exact UO 7 121 2 (by show _/\_;omega) (hid fun n=>by unfold Zw;simp) (enters_of Tryz.func121 (by kernel_rfl) rfl) (by decide) (by decide) (by decide) (by decide) (by decide) (by decide) (by decide) c s A n cap B g o (YT 7 s) w hn c0 c1 c2 c3 a7 b7 (hid fun W=>VY (SI s W))
 ·exact UO 8 121 2 (by show _/\_;omega) (hid fun n=>by unfold Zw;simp) (enters_of Tryz.func121 (by kernel_rfl) rfl) (by decide) (by decide) (by decide) (by decide) (by decide) (by decide) (by decide) c s A n cap B g o (YT 8 s) w hn c0 c1 c2 c3 a8 b8 (hid fun W=>VY (SI s W))
 ·exact UO 9 121 3 (by show _/\_;omega) (hid fun n=>by unfold Zw;simp) (enters_of Tryz.func121 (by kernel_rfl) rfl) (by decide) (by decide) (by decide) (by decide) (by decide) (by decide) (by decide) c s A n cap B g o (YT 9 s) w hn c0 c1 c2 c3 a9 b9 (hid fun W=>VY (SI s W))
 ·exact UO 10 125 1 (by show _/\_;omega) (hid fun n=>by unfold Zw;simp) (enters_of Tryz.func125 (by kernel_rfl) rfl) (by decide) (by decide) (by decide) (by decide) (by decide) (by decide) (by decide) c s A n cap B g o (YT 10 s) w hn c0 c1 c2 c3 ai af (hid fun W=>VY (zOb s W))
 ·exact UO 11 126 1 (by show _/\_;omega) (hid fun n=>by unfold Zw;simp) (enters_of Tryz.func126 (by kernel_rfl) rfl) (by decide) (by decide) (by decide) (by decide) (by decide) (by decide) (by decide) c s A n cap B g o (YT 11 s) w hn c0 c1 c2 c3 ah ae (hid fun W=>VY (Ug s W hs))
 exact S9 c s A n cap B g o (YT 12 s) w hn c0 c1 c2 c3 ag aa (hid fun W=>VY (SI s W))
end Go.Proofs.YthpngeboknmllaaGreat
namespace Go.Proofs.YthpngeboknmllaaGreat
open Go.RowKit
theorem Z8.drew {α:Type} {E:YW α} {w:World} {xs:List α} {v:Value} (h:Z8 E w (Lt w.heap.size) xs v):Z8 E w.drew (Lt w.drew.heap.size) xs v:=h.keep (fun _ _=>rfl) (fun _ h=>h)
theorem zU2 (kind:Int) (row:List Int) (n:Int) (nodes:List Z9) (old text:ByteArray) (k:Nat) (index slot r:Int) (rest:List Int) (Ar An As:Option Addr) (lr cr ln cn cs:Nat) (w:World)
  (hp:(⟨⟨kind,row,index,n,nodes,slot,old,text⟩,k,index,true,slot,r::rest⟩:Xw).Ok) (hs:Z0 w (Lt w.heap.size) (r::rest) (.slice As (rest.length+1) cs)) :
  Calls Tryz.prog 132 #[.agg #[.int .i64 kind,.slice Ar lr cr,.int .i64 index,.int .i64 n,.slice An ln cn,.int .i64 slot,.string old,.string text,.int .i64 k,.int .i64 index,.bool true,.int .i64 slot,.slice As (rest.length+1) cs]] w
   (Q4 w ((index+r)::rest,false)):=by
 have aB:rest.length+1<=100000:=hp.len;obtain⟨aH,aG⟩:Bd 1099511627776 index:=hp.at_;obtain⟨hr1,hr2⟩:=hp.rest r (by simp);obtain⟨A1,az,hcut⟩:=Wn ZF Tryz.underlying25 XA As (rest.length+1) cs 1 1 rfl (by omega);have aa:=hcut _ _ _ hs;simp only[List.drop_succ_cons,List.drop_zero,Nat.add_sub_cancel] at aa az;have aK:=hid aa;obtain⟨A,cap,rs,e,hc1,aF,au,av⟩:=hs;injection e with e1 e2 e3
 subst e1 e3;obtain⟨g,o,rfl,hg,hi,c0⟩:=YG au av (k:=0) (by simp);simp only[List.getElem_cons_zero,Nat.add_zero] at c0;have aD:g<w.heap.size:=hg;have ai:=zQ2 (x:=index+r) (by omega) (by omega);have i1:(0:Int)<((rest.length+1:Nat):Int):=by omega
 have aI:=hid ai;clear au av hc1 aF e2 hcut aa hp hi;go_enter Tryz.func132,Tryz.ntmps132
 go_wp2_with fail
 go_quiet (fail)
 go_wp2_with fail
 obtain⟨W,hW⟩:∃W,W=(w.alloc (.cells #[.int .i64 kind,.slice Ar lr cr,.int .i64 index,.int .i64 n,.slice An ln cn,.int .i64 slot,.string old,.string text,.int .i64 k,.int .i64 index,.bool true,.int .i64 slot,.slice (some ⟨g,o,none⟩) (rest.length+1) cs] 127)).drewN nq:=⟨_,rfl⟩;have ag:Below w.heap.size w W:=by rw[hW];exact YX (ZO _ _) _
 have aA:W.heap.size=w.heap.size+1:=by rw[hW];simp[World.drewN]
 have cW:W.cell? ⟨w.heap.size,12,none⟩=some (.slice (some ⟨g,o,none⟩) (rest.length+1) cs):=by rw[hW];exact World.cell?_alloc_new _ _ _ _
 have dW:W.cell? ⟨g,o,none⟩=some (.int .i64 r):=((bcell ag).1 _ _ aD).trans c0;have aJ:=hid (aK.out.below ag ag.size);rw[<-hW];have hw1:IntKind.i64.wrap (index+r)=index+r:=IntWalk.i64_in _ (by omega);have ay:w.heap.size<W.heap.size:=by omega
 have aC:g<W.heap.size:=by omega
 have HB:=hid ag;clear hW c0 aA ag;have HM:=hid (Vz W [index+r] (by simpa using aI.out) (S:=Lt (W.alloc (.cells #[.int .i64 (index+r)] 3)).heap.size) (by unfold Lt;simp) #[.int .i64 (index+r)] 1 rfl rfl (by simp[maxLen]) 3 W.heap.size rfl);have HC:=hid (Z8.drew (VU HM.out (aJ.out.alloc (.cells #[.int .i64 (index+r)] 3)) 25 rfl (fun _ h=>h) (W.heap.size+1) (by simp)));have HF:Hid ([[index+r],rest].flatten.length<=1000000):=by show _<=_;simp;omega
 obtain⟨W3,ak⟩:∃W3,W3=((W.alloc (.cells #[.int .i64 (index+r)] 3)).alloc (.cells #[.slice (some ⟨W.heap.size,0,none⟩) 1 1,.slice A1 rest.length (cs-1)] 25)).drew:=⟨_,rfl⟩;have af:Below W.heap.size W W3:=by rw[ak];exact((ZO _ _).trans ((ZO _ _).mono (by simp))).drew
 have ah:Hid (∀w1,Below W3.heap.size W3 w1->w1.cell? ⟨w.heap.size,12,none⟩=some (.slice (some ⟨g,o,none⟩) (rest.length+1) cs)/\w1.cell? ⟨g,o,none⟩=some (.int .i64 r)) :=
  fun w1 h=>⟨((bcell ((af.mono (QT _)).trans (h.mono af.size))).1 _ _ ay).trans cW,((bcell ((af.mono (QT _)).trans (h.mono af.size))).1 _ _ aC).trans dW⟩
 have ax:=hid af;rw[ak] at ah ax;clear af ak W3
 go_region_held3 (fun w'=>w'.cell? ⟨w.heap.size,12,none⟩=some (.slice (some ⟨g,o,none⟩) (rest.length+1) cs)/\w'.cell? ⟨g,o,none⟩=some (.int .i64 r)) (go_keep) (first|(go_at_call 87;refine(zGt [[index+r],rest] _ _ HC.out HF.out).mono ?_;rintro e w1 ⟨v1,rfl,ae,aj⟩;obtain⟨q1,q2⟩:=ah.out w1 aj))
 have HO:=hid ae;have aL:=hid aj;clear ae aj
 go_wp2_with fail
 go_ret2
 refine⟨_,rfl,by have h:=HO.out.ints (S:=Lt w1.heap.size) (fun _ _ h=>h);simpa using h,?_⟩;have h2:=ax.out.mono HB.out.size;exact HB.out.trans (h2.trans (aL.out.mono (HB.out.trans h2).size))
