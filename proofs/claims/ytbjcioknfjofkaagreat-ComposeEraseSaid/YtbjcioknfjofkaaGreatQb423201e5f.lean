/- Texts put together. -/
import Derived.Test.YtbjcioknfjofkaaGreatQf027d70dc5
import Derived.Test.YtbjcioknfjofkaaGreatQ1301ed6cff
import Derived.Test.YtbjcioknfjofkaaGreatQd369732d1f
import Derived.Test.YtbjcioknfjofkaaGreatQ09d38dcda9
import Derived.Deep.RegionHeld3
import Derived.Laws.Rows
import Derived.Laws.Tables
set_option linter.unusedVariables false
set_option linter.unusedSimpArgs false
set_option maxRecDepth 100000
namespace Go.Proofs.YtbjcioknfjofkaaGreat
open Go.RowKit
structure StD where
 t:Tree
 A:Option Addr
 cap:Nat
 p:List Int
 Ap:Option Addr
 cp:Nat
 m:List Int
 Am:Option Addr
 cm:Nat
 rr:List Int
 Ar:Option Addr
 cr:Nat
 ra:Int
 rb:Int
 q:List Int
 A1:Option Addr
 c1:Nat
 o:Int
 its:List Tree
 Ai:Option Addr
 ci:Nat
 ar:Bool
 q2:List Int
 A2:Option Addr
 c2:Nat
 i:Int
 s:Int
 it:Tree
 A3:Option Addr
 c3:Nat
def stC (d:StD):Array Value:=#[.int .i64 d.t.kind,.string d.t.text,.int .i64 d.t.cols,.slice d.A d.t.kids.length d.cap,.slice d.Ap d.p.length d.cp,.slice d.Am d.m.length d.cm,.slice d.Ar d.rr.length d.cr,.int .i64 d.ra,.int .i64 d.rb,.slice d.A1 d.q.length d.c1,.int .i64 d.o,.slice d.Ai d.its.length d.ci,.bool d.ar,.slice d.A2 d.q2.length d.c2,.int .i64 d.i,.int .i64 d.s,.int .i64 d.it.kind,.string d.it.text,.int .i64 d.it.cols,.slice d.A3 d.it.kids.length d.c3]
structure StR (w:World) (d:StD):Prop where
 tk:zAa zAb w (Lt w.heap.size) d.t.kids (.slice d.A d.t.kids.length d.cap)
 tok:zAu d.t
 tct:zAe d.t≤900000
 p:zAh w (Lt w.heap.size) d.p (.slice d.Ap d.p.length d.cp)
 m:zAh w (Lt w.heap.size) d.m (.slice d.Am d.m.length d.cm)
 pl:d.p.length≤90000
 ml:d.m.length≤90000
 r:zAh w (Lt w.heap.size) d.rr (.slice d.Ar d.rr.length d.cr)
 q:zAh w (Lt w.heap.size) d.q (.slice d.A1 d.q.length d.c1)
 its:zAa zAb w (Lt w.heap.size) d.its (.slice d.Ai d.its.length d.ci)
 q2:zAh w (Lt w.heap.size) d.q2 (.slice d.A2 d.q2.length d.c2)
 it:zAa zAb w (Lt w.heap.size) d.it.kids (.slice d.A3 d.it.kids.length d.c3)
 of:ofS d.t d.p d.m = ((d.rr,d.ra,d.rb),0)
 pe:d.p = d.q ++ [d.o]
 ie:d.its = (zAg d.t d.q).1.kids
 ar0:d.ar = false→aroS d.t d.p = none
 ar1:d.ar = true→aroS d.t d.p = some ⟨d.q2,d.i,d.s,d.it⟩∧zAu d.it∧zAe d.it≤1000∧d.q = d.q2 ++ [d.i,d.s]∧∃ s':Nat,d.s = s'∧∃ h:s' < d.it.kids.length,d.it.kids[s'] = rowT d.its
theorem StR.bl {w w':World} {d:StD} (h:StR w d) (hb:Below w.heap.size w w'):StR w' d :=
 ⟨h.tk.below hb hb.size,h.tok,h.tct,h.p.below hb hb.size,h.m.below hb hb.size,h.pl,h.ml,h.r.below hb hb.size,h.q.below hb hb.size,h.its.below hb hb.size,h.q2.below hb hb.size,h.it.below hb hb.size,h.of,h.pe,h.ie,h.ar0,h.ar1⟩
theorem sl_ok {w:World} {S:Nat→Prop} {l:List Tree} {v:Value} (h:zAa zAb w S l v) {k:Nat} (hk:k < l.length):zAu l[k]:=by
 obtain ⟨_,_,_,_,_,_,_,hl⟩:=h
 obtain ⟨c,_,hR,_⟩:=hl.at_ hk
 obtain ⟨v1,_,a1,a2,a3,_⟩:=zB1.1 hR
 exact ⟨a1,a2,a3⟩
theorem zJp {w : World} {S : Nat → Prop} : (p : List Int) → (t : Tree) → (zAm t p).2 = true → (∃ v, zAa zAb w S t.kids v) → ∃ v, zAa zAb w S (zAm t p).1.kids v
  | [], t, _, h => h
  | [_], t, h, _ => by simp [zAm] at h
  | i :: k :: p, t, h, hv => by
    obtain ⟨hi, hk, he⟩ := zCs t i k p h
    rw [he] at h ⊢
    refine zJp p _ h ?_
    obtain ⟨v, A, cap, cs, rfl, _, _, _, hl⟩ := hv
    obtain ⟨c, _, hR, _⟩ := hl.at_ hi.2
    obtain ⟨v1, rfl, a1, a2, a3, hv1⟩ := zB1.1 hR
    rw [← zBy hi.2] at hv1
    obtain ⟨A1, cap1, cs1, rfl, _, _, _, hl1⟩ := hv1
    obtain ⟨c1, _, hR1, _⟩ := hl1.at_ hk.2
    obtain ⟨v2, rfl, b1, b2, b3, hv2⟩ := zB1.1 hR1
    rw [← zBy hk.2] at hv2
    exact ⟨v2, hv2⟩
theorem zMe {w:World} {S:Nat→Prop} {t:Tree} {p m q2:List Int} {i s o:Int} {v:Value} (hv:zAa zAb w S t.kids v) (h:(ofS t p m).2 = 0) (hp:p = q2 ++ [i,s] ++ [o]) :
  aroS t p = some ⟨q2,i,s,(zA3 t q2 i).1⟩∧zAu (zA3 t q2 i).1∧zAe (zA3 t q2 i).1≤1000∧∃ s':Nat,s = s'∧∃ h:s' < (zA3 t q2 i).1.kids.length,(zA3 t q2 i).1.kids[s'] = rowT (zAg t (q2 ++ [i,s])).1.kids:=by
 obtain ⟨hvt,hpos,_⟩:=zMv h
 rw [hp] at hpos
 obtain ⟨h4,hi,hk,h7,_⟩:=zFb hpos
 have h8:=(zF2 hpos).1
 have e1:(zA3 t q2 i).1 = kidS (zAm t q2).1 i:=by
  unfold zA3
  rw [zDn hvt h4,if_neg (by simp),if_neg (by simp only;omega)]
  simp only [zD8,kidS]
 have e2:=zBy hi.2
 have hr:=zGd hvt h8
 obtain ⟨v1,hv1⟩:=zJp q2 t h4 ⟨v,hv⟩
 have hc:=zCe t q2
 have hc2:=zDg hi.2
 have hvc:=(zA0 hvt).1
 refine ⟨?_,?_,?_,s.toNat,by omega,?_⟩
 ·unfold aroS
  rw [hp,if_neg (by simp)]
  simp only [List.append_assoc,List.cons_append,List.nil_append,List.length_append,List.length_cons,List.length_nil,Nat.zero_add,Nat.reduceAdd,Nat.add_sub_cancel,List.take_left']
  have g1:(q2 ++ [i,s,o]).getD q2.length 0 = i:=by rw [List.getD_eq_getElem?_getD,List.getElem?_append_right (Nat.le_refl _)];simp
  have g2:(q2 ++ [i,s,o]).getD (q2.length + 3 - 2) 0 = s:=by rw [List.getD_eq_getElem?_getD,List.getElem?_append_right (by omega),show q2.length + 3 - 2 - q2.length = 1 by omega];rfl
  rw [g1,g2]
 ·rw [e1,e2];exact sl_ok hv1 hi.2
 ·rw [e1,e2];omega
 ·rw [e1]
  refine ⟨hk.2,?_⟩
  rw [← zBy hk.2,← h7,hr,zDn hvt h8]
theorem zQw {t:Tree} {o:Int}:aroS t [o] = none:=by unfold aroS;rw [if_pos (by simp)]
set_option maxHeartbeats 1000000 in
theorem look_st (t : Tree) (p m : List Int) (A Ap Am : Option Addr) (cap cp cm : Nat) (w : World) (hv : zAa zAb w (Lt w.heap.size) t.kids (.slice A t.kids.length cap)) (hok : zAu t) (hct : zAe t ≤ 900000) (hp : zAh w (Lt w.heap.size) p (.slice Ap p.length cp)) (hm : zAh w (Lt w.heap.size) m (.slice Am m.length cm)) (hpl : p.length ≤ 90000) (hml : m.length ≤ 90000) :
    Calls Tryz.prog 37 #[.agg #[.int .i64 t.kind, .string t.text, .int .i64 t.cols, .slice A t.kids.length cap], .agg #[.slice Ap p.length cp, .slice Am m.length cm]] w fun e w' => Below w.heap.size w w' ∧
      (((ofS t p m).2 ≠ 0 ∧ e = .returned (.tuple #[.agg #[.int .i64 0, .string ⟨#[]⟩, .int .i64 0, .slice none 0 0, .slice none 0 0, .slice none 0 0, .slice none 0 0, .int .i64 0, .int .i64 0, .slice none 0 0, .int .i64 0, .slice none 0 0, .bool false, .slice none 0 0, .int .i64 0, .int .i64 0, .int .i64 0, .string ⟨#[]⟩, .int .i64 0, .slice none 0 0], .int .i64 (ofS t p m).2])) ∨
       ((ofS t p m).2 = 0 ∧ ∃ rr Ar cr ra rb q A1 o its Ai ci ar q2 A2 c2 i s it A3 c3, e = .returned (.tuple #[.agg (stC ⟨t, A, cap, p, Ap, cp, m, Am, cm, rr, Ar, cr, ra, rb, q, A1, cp, o, its, Ai, ci, ar, q2, A2, c2, i, s, it, A3, c3⟩), .int .i64 0]) ∧ StR w' ⟨t, A, cap, p, Ap, cp, m, Am, cm, rr, Ar, cr, ra, rb, q, A1, cp, o, its, Ai, ci, ar, q2, A2, c2, i, s, it, A3, c3⟩)) := by
  refine (look_any t p m A Ap Am cap cp cm w hv hok hct hp hm (by omega)).mono ?_
  rintro e w' (⟨h1, rfl, hb⟩ | ⟨h1, q, o, Ar, cr, A1, Ai, ci, hpe, hr, hq, hi, hb, h2⟩)
  · exact ⟨hb, .inl ⟨h1, rfl⟩⟩
  · refine ⟨hb, .inr ⟨h1, (ofS t p m).1.1, Ar, cr, (ofS t p m).1.2.1, (ofS t p m).1.2.2, q, A1, o, (zAg t q).1.kids, Ai, ci, ?_⟩⟩
    have hof : ofS t p m = (((ofS t p m).1.1, (ofS t p m).1.2.1, (ofS t p m).1.2.2), 0) := by rw [← h1]
    have kn : ∀ k, New w w' k → Lt w'.heap.size k := fun k hk => hk.2
    have ko : ∀ k, Lt w.heap.size k → Lt w'.heap.size k := fun k hk => Nat.lt_of_lt_of_le hk hb.size
    rcases h2 with ⟨rfl, rfl⟩ | ⟨q2, i, s, A2, A3, c3, rfl, hq2, hit, rfl⟩
    · refine ⟨false, [], none, 0, 0, 0, zAx, none, 0, rfl, ⟨hv.below hb hb.size, hok, hct, hp.below hb hb.size, hm.below hb hb.size, hpl, hml, hr.keep (fun _ _ => rfl) kn, hq.keep (fun _ _ => rfl) ko, hi.keep (fun _ _ => rfl) kn, zAa.nil_ 0 (Nat.zero_le _) none, zAa.nil_ 0 (Nat.zero_le _) none, hof, hpe, rfl, fun _ => ?_, fun h => by cases h⟩⟩
      show aroS t p = none
      rw [hpe]; exact zQw
    · refine ⟨true, q2, A2, cp, i, s, (zA3 t q2 i).1, A3, c3, rfl, ⟨hv.below hb hb.size, hok, hct, hp.below hb hb.size, hm.below hb hb.size, hpl, hml, hr.keep (fun _ _ => rfl) kn, hq.keep (fun _ _ => rfl) ko, hi.keep (fun _ _ => rfl) kn, hq2.keep (fun _ _ => rfl) ko, hit.keep (fun _ _ => rfl) kn, hof, hpe, rfl, fun h => (by cases h), fun _ => ?_⟩⟩
      obtain ⟨a1, a2, a3, a4⟩ := zMe hv h1 hpe
      exact ⟨a1, a2, a3, rfl, a4⟩
class zIv (W X:World):Prop where
 b:Below W.heap.size W X
instance (W:World):zIv W W:=⟨Below.refl _ _⟩
instance (W X:World) (o:Obj) [h:zIv W X]:zIv W (X.alloc o):=⟨bAl h.b o⟩
instance (W X:World) [h:zIv W X]:zIv W X.drew:=⟨Below.drew h.b⟩
theorem bw {W X:World} [h:zIv W X]:Below W.heap.size W X:=h.b
theorem bwt {w0 W X:World} (h:Below w0.heap.size w0 W) [zIv W X]:Below w0.heap.size w0 X:=h.trans (bw.mono h.size)
class zIu (g:Nat) (W X:World):Prop where
 k:Kept (fun k=>k = g) W X
theorem Kept.trans' {N:Nat→Prop} {w W X:World} (h:Kept N w W) (k:Kept N W X):Kept N w X:=(h.trans k).mono (fun _ _ e=>e.elim id id)
instance (g:Nat) (W:World):zIu g W W:=⟨Kept.of_below (Below.refl _ _) _⟩
instance (g:Nat) (W X:World) (o:Obj) [h:zIu g W X]:zIu g W (X.alloc o):=⟨h.k.trans' (Kept.of_below bw _)⟩
instance (g:Nat) (W X:World) [h:zIu g W X]:zIu g W X.drew:=⟨h.k.trans' (Kept.of_below bw _)⟩
instance (g i:Nat) (v:Value) (W X:World) [h:zIu g W X]:zIu g W (X.setCell ⟨g,i,none⟩ v):=⟨h.k.trans' (Kept.set X ⟨g,i,none⟩ v)⟩
theorem kw {g:Nat} {W X:World} [h:zIu g W X]:Kept (fun k=>k = g) W X:=h.k
theorem kwt {g:Nat} {w0 W X:World} (h:Below w0.heap.size w0 W) [zIu g W X]:Kept (fun k=>k = g) w0 X:=(Kept.of_below h _).trans' kw
theorem zEz {α:Type} {E:Enc α} {F:Nat→Prop} {b:Nat} {X w':World} {xs:List α} {v:Value} (hlo:∀ k,F k→b≤k) (hhi:∀ k,F k→k < X.heap.size) (h:zAa E w' (fun k=>k < w'.heap.size∧(Lt b k∨X.heap.size≤k)) xs v):zAa E w' (NF F w') xs v :=
 h.keep (fun _ _=>rfl) (fun k hk=>⟨hk.1,fun e=>hk.2.elim (fun h1=>absurd (hlo k e) (by unfold Lt at h1;omega)) (fun h1=>absurd (hhi k e) (by omega))⟩)
theorem RecB.put {w0:World} {r:RecD × Int} {e:Ending} {w' X:World} {g:Nat} {arr:Array Value} {T:TypeId} (h:RecB w0 r e w') (ho:zAc w' g (.cells #[.slice none 0 0,.slice none 0 0,.slice none 0 0,.slice none 0 0,.slice none 0 0] T)) (hk:Kept (fun k=>k = g) w' X) (hz:X.heap.size = w'.heap.size) {w1:World} (hb:Below w1.heap.size w1 w') (hg:w1.heap.size≤g):RecB w1 r e X:=by
 have h1:RecB w1 r e w':=by
  obtain ⟨A1,c1,A2,c2,A3,c3,A4,c4,A5,c5,he,r1,r2,r3,r4,r5,_⟩:=h
  exact ⟨A1,c1,A2,c2,A3,c3,A4,c4,A5,c5,he,r1,r2,r3,r4,r5,hb⟩
 refine h1.store (slb5 ho) (fun k hk'=>?_) hz (hb.trans (hk.below hb.size (fun k e=>by rw [e];exact hg)))
 by_cases hlt:k < w'.heap.size
 ·exact hk.block k hlt hk'
 ·rw [Array.getElem?_eq_none (by omega),Array.getElem?_eq_none (by omega)]
theorem RecF.put {w0:World} {r:RecD × Int} {e:Ending} {w' X:World} {g:Nat} {arr:Array Value} {T:TypeId} (h:RecF w0 r e w') (ho:zAc w' g (.cells #[.slice none 0 0,.slice none 0 0,.slice none 0 0,.slice none 0 0,.slice none 0 0] T)) (hk:Kept (fun k=>k = g) w' X) (hz:X.heap.size = w'.heap.size) {w1:World} (hb:Below w1.heap.size w1 w0) (hg:w1.heap.size≤g):RecF w1 r e X:=by
 have hbb:Below w1.heap.size w1 w':=by
  obtain ⟨_,_,_,_,_,_,_,_,_,_,_,_,_,_,_,_,h9⟩:=h
  exact hb.trans (h9.mono hb.size)
 refine h.store hb.size (slb5 ho) (fun k hk'=>?_) hz (hbb.trans (hk.below hbb.size (fun k e=>by rw [e];exact hg)))
 by_cases hlt:k < w'.heap.size
 ·exact hk.block k hlt hk'
 ·rw [Array.getElem?_eq_none (by omega),Array.getElem?_eq_none (by omega)]
theorem zHd {W:World} {g:Nat} {T:TypeId} {x0 x1 x2 x3 x4 x5 x6 x7 x8 x9 x10 x11 x12 x13 x14 x15 x16 x17 x18 x19:Value} (h:zAc W g (.cells #[x0,x1,x2,x3,x4,x5,x6,x7,x8,x9,x10,x11,x12,x13,x14,x15,x16,x17,x18,x19] T)) :
  W.cell? ⟨g,0,none⟩ = some x0∧W.cell? ⟨g,1,none⟩ = some x1∧W.cell? ⟨g,2,none⟩ = some x2∧W.cell? ⟨g,3,none⟩ = some x3∧W.cell? ⟨g,4,none⟩ = some x4∧W.cell? ⟨g,5,none⟩ = some x5∧W.cell? ⟨g,6,none⟩ = some x6∧W.cell? ⟨g,7,none⟩ = some x7∧W.cell? ⟨g,8,none⟩ = some x8∧W.cell? ⟨g,9,none⟩ = some x9∧W.cell? ⟨g,10,none⟩ = some x10∧W.cell? ⟨g,11,none⟩ = some x11∧W.cell? ⟨g,12,none⟩ = some x12∧W.cell? ⟨g,13,none⟩ = some x13∧W.cell? ⟨g,14,none⟩ = some x14∧W.cell? ⟨g,15,none⟩ = some x15∧W.cell? ⟨g,16,none⟩ = some x16∧W.cell? ⟨g,17,none⟩ = some x17∧W.cell? ⟨g,18,none⟩ = some x18∧W.cell? ⟨g,19,none⟩ = some x19 :=
 ⟨h.cell 0,h.cell 1,h.cell 2,h.cell 3,h.cell 4,h.cell 5,h.cell 6,h.cell 7,h.cell 8,h.cell 9,h.cell 10,h.cell 11,h.cell 12,h.cell 13,h.cell 14,h.cell 15,h.cell 16,h.cell 17,h.cell 18,h.cell 19⟩
theorem zJ6 {F F':Nat→Prop} {X W':World} {T:TypeId} (is:List Int) (h64:∀ i ∈ is,In64 i) (hl:is.length≤maxLen) (hF:∀ k,F k→k < X.heap.size) (hs:Stp F F' (X.alloc (.cells (is.map (.int .i64 ·)).toArray T)).drew W'):zAh W' (NF F' W') is (.slice (some ⟨X.heap.size,0,none⟩) is.length is.length) :=
 zGm (T:=T) is h64 hl hF ⟨⟨hs.kept.os,hs.kept.tape,hs.kept.output,hs.kept.size,hs.kept.block⟩,hs.new⟩
theorem zB6 {ops:Array Oper} {S:World→Prop} {o:Oper} {a:Act} (ty:TypeId) (x:Operand) (ho:o.op = .load ty x) (hw:Region.wanted o (yielded ops a.tmps) = true) (g:Nat) (hx:a.eval x = .pointer (some ⟨g,0,none⟩)) {t:TypeId} {cs:Array Value} (hg:∀ w,S w→zAc w g (.cells cs t)) {fs} (hu:Tryz.prog.underlying ty = some (.struct fs)) (hi:(Tryz.prog.info? ty).map (·.size) = some cs.size):YieldsIf Tryz.prog ops S o (.agg cs) a :=
 Or.inl ⟨hw,fun w hS=>by
  unfold execOp
  simp only [ho,hx,Instr.loadAt,Instr.sureAddr,Sem.run_bind,Sem.run_pure,Result.andThen_ok,run_loadVar_row w g t ty cs (0,0) (.struct fs) (hg w hS) hu rfl hi]⟩
instance (g:Nat) (cs:Array Value) (W X:World) [h:zIu g W X]:zIu g W (X.setRow g cs):=⟨h.k.trans' (Kept.setRow X g cs)⟩
def PutX (wk:World) (g:Nat) (cs:Array Value) (T:TypeId) (X:World):Prop:=Kept (fun k=>k = g) wk X∧zAc X g (.cells cs T)∧X.heap.size = wk.heap.size
theorem zCq {K:Act→World→Prop} {a:Act} {wk:World} {g:Nat} {cs ds:Array Value} {T:TypeId} (h:zAc wk g (.cells ds T)) (hk:∀ X,Hid (PutX wk g cs T X)→K a X):K a (wk.setRow g cs):=hk _ ⟨Kept.setRow _ _ _,h.row _,size_setRow _ _ _⟩
theorem zJ8 {w X:World} (er:Int) (hb:Below w.heap.size w X):RecB w (recZ,er) (.returned (.tuple #[.agg #[.slice none 0 0,.slice none 0 0,.slice none 0 0,.slice none 0 0,.slice none 0 0],.int .i64 er])) X :=
 ⟨none,0,none,0,none,0,none,0,none,0,rfl,zAa.nil_ 0 (Nat.zero_le _) none,zAa.nil_ 0 (Nat.zero_le _) none,zAa.nil_ 0 (Nat.zero_le _) none,zAa.nil_ 0 (Nat.zero_le _) none,zAa.nil_ 0 (Nat.zero_le _) none,hb⟩
theorem zK8 {w X:World} (er:Int) (hb:Below w.heap.size w X):RecF w (recZ,er) (.returned (.tuple #[.agg #[.slice none 0 0,.slice none 0 0,.slice none 0 0,.slice none 0 0,.slice none 0 0],.int .i64 er])) X :=
 ⟨none,0,none,0,none,0,none,0,none,0,rfl,zAa.nil_ 0 (Nat.zero_le _) none,zAa.nil_ 0 (Nat.zero_le _) none,zAa.nil_ 0 (Nat.zero_le _) none,zAa.nil_ 0 (Nat.zero_le _) none,zAa.nil_ 0 (Nat.zero_le _) none,hb⟩
theorem zA2 {x:Int} (h:-1000000≤x∧x≤1000000):In64 x:=by unfold In64;omega
theorem step_len {t:Tree} {p:List Int} {d:Int} (hv:zAf t = true):(zDy t p d).1.length≤24:=by
 have key:∀ i,(atL (allS [] t) i).1.length≤24:=fun i=>by
  unfold atL
  split
  ·split
   ·rename_i q hq
    have h1:=zKj.1 (List.mem_of_getElem? hq)
    have h2:=(zKd t q h1).1
    have h3:=(zA0 hv).2.2.2
    simp only
    omega
   ·simp
  ·simp
 unfold zDy zKy
 rw [hv,if_pos rfl]
 split
 ·split
  ·exact key _
  ·simp
 ·simp
theorem zH5 {t:Tree} (hv:zAf t = true) (r:List Int) (a b:Int):zAd (zCd t r a b).1≤1000:=by
 unfold zCd
 split
 ·simp [zAd]
 ·split
  ·simp [zAd]
  ·rename_i h _
   simp only
   have h1:=zD4 ((zAg t r).1.kids.take b.toNat) a.toNat
   have h2:=zAo (zAg t r).1.kids b.toNat
   have h3:zAd (zAg t r).1.kids≤1000:=by
    unfold zAg at h ⊢
    split
    ·simp [zAx,Tree.kids,zAd]
    ·split
     ·simp [zAx,Tree.kids,zAd]
     ·have:=zCe t r
      have h4:=zA7 (zAm t r).1
      have:=(zA0 hv).1
      simp only
      omega
   omega
theorem zJ3 {w:World} {d:StD} (h:StR w d):zAf d.t = true∧d.its.length≤1000∧zAd d.its≤1000∧0≤d.o∧d.o≤d.its.length∧d.q.length≤90000∧zAs d.t d.p = true∧(d.ar = true→0≤d.i∧d.i≤1000∧d.q2.length≤90000)∧d.rr.length≤90000∧0≤d.ra∧d.ra≤d.rb∧d.rb≤1000:=by
 have h1:=h.of
 obtain ⟨hv,hp,_,f1,f2,f3,f4⟩:=zMv (t:=d.t) (p:=d.p) (m:=d.m) (by rw [h1])
 rw [h1] at f1 f2 f3 f4
 simp only at f1 f2 f3 f4
 have hpe:=h.pe
 have hp1:=hp
 rw [hpe] at hp1
 obtain ⟨g1,g2,g3⟩:=zF2 hp1
 have e:d.its = (zAm d.t d.q).1.kids:=by rw [h.ie,zDn hv g1]
 rw [← e] at g3
 have hc:=zCe d.t d.q
 have hvc:=(zA0 hv).1
 have hk:=zA7 (zAm d.t d.q).1
 rw [← e] at hk
 have hl:=zAn (zAm d.t d.q).1
 rw [← e] at hl
 have hpl:=h.pl
 rw [hpe] at hpl
 simp at hpl
 have hcr:=zCe d.t d.rr
 have hlr:=zAn (zAm d.t d.rr).1
 have hrl:d.rr.length≤90000:=by
  have h2:=h.of
  unfold ofS at h2
  have hm:=h.ml
  have hpl2:=h.pl
  split at h2 <;> unfold betV at h2 <;> split at h2
  ·simp at h2
  ·split at h2
   ·simp at h2
   ·have:=congrArg (fun x=>x.1.1.length) h2
    simp [btS] at this
    omega
  ·simp at h2
  ·split at h2
   ·simp at h2
   ·have:=congrArg (fun x=>x.1.1.length) h2
    simp [btS] at this
    omega
 refine ⟨hv,by omega,by omega,g2,g3,by omega,hp,fun ha=>?_,hrl,f2,f3,by omega⟩
 obtain ⟨_,_,_,hq,_⟩:=h.ar1 ha
 rw [hq] at hp1 hpl
 obtain ⟨_,k1,_⟩:=zFb hp1
 have h5:=zCe d.t d.q2
 have h6:=zAn (zAm d.t d.q2).1
 simp at hpl
 exact ⟨k1.1,by omega,by omega⟩
theorem zPi {w:World} {d:StD} (h:StR w d) {W:World} {B:Nat} {ops:List OpD} {pos am:List Int} (hW:Below w.heap.size w W) {w0:World} (hb:BA w0 W B (stC d) ops pos am) (hol:ops.length≤1000):Calls Tryz.prog 43 #[.pointer (some ⟨B,0,none⟩)] W (RecF w0 (zD9 d.t d.p d.m ops pos am)) :=
 cb_done hb d.t d.p d.m d.A d.Ap d.Am d.cap d.cp d.cm rfl rfl rfl rfl rfl rfl (h.bl hW).tk h.tok h.tct (h.bl hW).p (h.bl hW).m (by have:=h.pl;omega) (by have:=h.ml;omega) hol
end Go.Proofs.YtbjcioknfjofkaaGreat
