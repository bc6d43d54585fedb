/- Texts put together. -/
import Derived.Test.YtbjcioknfjofkaaGreatQedd1d24126
set_option linter.unusedVariables false
set_option linter.unusedSimpArgs false
set_option maxRecDepth 100000
namespace Go.Proofs.YtbjcioknfjofkaaGreat
open Go.RowKit
theorem zKv (k:Int):zCt k = true ↔ k = 2∨k = 3∨k = 4∨k = 10∨k = 11:=by unfold zCt;simp
def zOj (l:List Tree) (a:Nat) (x:Tree) (old text:ByteArray):List Tree × Int:=if zCt x.kind = true∧(x.text.toList == old.toList) = true then (zAv l a (a + 1) [.mk x.kind text x.cols x.kids],0) else ([],7)
set_option maxHeartbeats 8000000 in
theorem eset_any (op:OpD) (l:List Tree) (a lr:Nat) (x:Tree) (Ar An A:Option Addr) (cr cn cap:Nat) (w:World) (S:Nat→Prop) (hS:∀ q,S q→q < w.heap.size) (hl:zAa zAb w S l (.slice A l.length cap)) (ha:op.at_ = a) (hal:a < l.length) (hx:l[a] = x) (hll:l.length≤400000) (htx:op.text.size≤maxLen) :
  Calls Tryz.prog 129 #[.agg (chC op (.slice Ar lr cr) (.slice An op.nodes.length cn) (.slice A l.length cap))] w (zCa S w (zOj l a x op.old op.text)):=by
 obtain ⟨W0,hW0,hz,KB⟩:=zO6 op (.slice Ar lr cr) (.slice An op.nodes.length cn) (.slice A l.length cap) w
 have KBH:=hid KB
 obtain ⟨⟨⟨m0,m1,m2,m3,m4,m5,m6,m7⟩,m8⟩,hB0⟩:=KB W0 (Below.refl _ _)
 have HB0:=hid hB0
 have hl0:=hl
 obtain ⟨_,_,rs0,hq,_,_,hrd0,hls0⟩:=hl0
 cases hq
 obtain ⟨g,o,A1,c1,rs1,rfl,hg,t0,t1,t2,t3,b1,b2,b3,b4,b5,hrd1,hls1⟩:=zAy hrd0 hls0 hal
 simp only [hx] at t0 t1 t2 t3 b1 b2 b3 b4 b5 hrd1 hls1
 have hgl:g < w.heap.size:=hS g hg
 have hkv:zAa zAb w S x.kids (.slice A1 x.kids.length c1):=⟨_,_,rs1,rfl,b4,b5,hrd1,hls1⟩
 have q0:=(hB0.cell (p:=⟨g,_,none⟩) hgl).trans t0
 have q1:=(hB0.cell (p:=⟨g,_,none⟩) hgl).trans t1
 have q2:=(hB0.cell (p:=⟨g,_,none⟩) hgl).trans t2
 have q3:=(hB0.cell (p:=⟨g,_,none⟩) hgl).trans t3
 obtain ⟨xk,xt,xc,xs⟩:=x
 simp only [Tree.kind,Tree.text,Tree.cols,Tree.kids] at *
 have hok:zAu (.mk xk op.text xc xs):=⟨b1,b2,htx⟩
 have HJ:Hid (∀ W gg,Below w.heap.size w W→gg = W.heap.size→Calls Tryz.prog 165 #[.agg (chC op (.slice Ar lr cr) (.slice An op.nodes.length cn) (.slice (some ⟨g,o,none⟩) l.length cap)),.int .i64 1,.slice (some ⟨gg,0,none⟩) 1 1] (W.alloc (Obj.cells #[.int .i64 xk,.string op.text,.int .i64 xc,.slice A1 xs.length c1] 24)) (zEb S w (zAv l a (a + 1) [.mk xk op.text xc xs]))):=fun W gg hW hgg=>by
  subst hgg
  have h9:=hW.trans ((blA W (Obj.cells #[.int .i64 xk,.string op.text,.int .i64 xc,.slice A1 xs.length c1] 24)).mono hW.size)
  exact (zGa op l [.mk xk op.text xc xs] 1 a (a + 1) lr Ar (some ⟨g,o,none⟩) _ (.slice An op.nodes.length cn) cr cap 1 _ (fun q=>S q∨q = W.heap.size) (fun q hq=>by
   rcases hq with hq | rfl
   ·exact Nat.lt_of_lt_of_le (hS q hq) h9.size
   ·simp) ((zBg hl hS h9).keep (fun _ _=>rfl) (fun _ h=>.inl h)) (litS (fun q hq=>Nat.lt_of_lt_of_le (hS q hq) hW.size) hok (zBg hkv hS hW)) ha (by omega) (by omega) hal (by simp;omega)).mono fun e w' h=>h.wide (fun q hq=>by
    rcases hq with hq | rfl
    ·exact .inl hq
    ·exact .inr ⟨hW.size,by simp⟩) h9
 have KB1:Hid (Below w.heap.size w (W0.alloc (Obj.cells #[.int .i64 xk,.string op.text,.int .i64 xc,.slice A1 xs.length c1] 24))):=hB0.alloc hB0.size _
 obtain ⟨kind,row,at_,n,nodes,slot,old,text⟩:=op
 simp only [chC] at *
 subst ha
 have i0:(0:Int)≤(a:Int):=by omega
 have i1:(a:Int) < (l.length:Int):=by omega
 have HRA:Hid (zCt xk = true→(xt.toList == old.toList) = true→zOj l a (.mk xk xt xc xs) old text = (zAv l a (a + 1) [.mk xk text xc xs],0)):=fun h1 h2=>if_pos ⟨h1,h2⟩
 have HRB:Hid (zCt xk = false∨(xt.toList == old.toList) = false→zOj l a (.mk xk xt xc xs) old text = ([],7)):=fun h=>if_neg (fun h9=>h.elim (fun h=>absurd (h.symm.trans h9.1) (by decide)) (fun h=>absurd (h.symm.trans h9.2) (by decide)))
 generalize zOj l a (.mk xk xt xc xs) old text = R at *
 generalize hbt:(xt.toList == old.toList) = bt at *
 generalize zAv l a (a + 1) [.mk xk text xc xs] = L at *
 have hkk:=zKv xk
 generalize zCt xk = bk at *
 clear hl hS hx KB hB0 hrd0 hls0 hrd1 hls1 t0 t1 t2 t3 b1 b2 b3 b4 b5 hok hkv hll htx hal
 cases bk
 ·simp at hkk
  have j1:(xk == 2) = false:=by simpa using hkk.1
  have j2:(xk == 3) = false:=by simpa using hkk.2.1
  have j3:(xk == 4) = false:=by simpa using hkk.2.2.1
  have j4:(xk == 10) = false:=by simpa using hkk.2.2.2.1
  have j5:(xk == 11) = false:=by simpa using hkk.2.2.2.2
  rw [HRB.out (.inl rfl)]
  clear HJ hkk HRA HRB
  go_enter Tryz.func129,Tryz.ntmps129
  go_wp2_with fail
  refine bodyPost_ret (v:=.tuple #[.slice none 0 0,.int .i64 7]) (by simp [results,Tryz.results129,go_sem]) rfl ?_
  exact nilP (HB0.out.alloc HB0.out.size _) _
 ·have hkk:=hkk.1 rfl
  cases bt
  ·rw [HRB.out (.inr rfl)]
   clear HJ HRA HRB
   rcases hkk with rfl | rfl | rfl | rfl | rfl
   all_goals
    go_enter Tryz.func129,Tryz.ntmps129
    go_wp2_with fail
    refine bodyPost_ret (v:=.tuple #[.slice none 0 0,.int .i64 7]) (by simp [results,Tryz.results129,go_sem]) rfl ?_
    exact nilP (HB0.out.alloc HB0.out.size _) _
  ·rw [HRA.out rfl rfl]
   clear HRA HRB
   rcases hkk with rfl | rfl | rfl | rfl | rfl
   all_goals
    go_enter Tryz.func129,Tryz.ntmps129
    go_wp2_with fail
    refine (HJ.out _ (w.heap.size + 1 + 1) KB1.out (by simp [hz])).mono ?_
    rintro e w6 ⟨v6,rfl,hr6,hb6⟩
    have HR6:=hid hr6
    have HB6:=hid hb6
    clear hr6 hb6
    go_wp2_with fail
    refine bodyPost_ret (v:=.tuple #[v6,.int .i64 0]) (by simp [results,Tryz.results129,go_sem]) rfl ?_
    exact ⟨v6,rfl,HR6.out,HB6.out⟩
end Go.Proofs.YtbjcioknfjofkaaGreat
