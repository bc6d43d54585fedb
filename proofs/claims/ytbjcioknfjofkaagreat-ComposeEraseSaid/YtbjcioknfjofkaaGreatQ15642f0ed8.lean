/- Texts put together. -/
import Derived.Test.YtbjcioknfjofkaaGreatQ2a6bd4da00
import Derived.RegionTactic
import Derived.OwnWalk
import Derived.Lib.AppendZerosOnto
import Derived.Lib.AppendZeros
set_option linter.unusedVariables false
set_option linter.unusedSimpArgs false
set_option maxRecDepth 100000
namespace Go.Proofs.YtbjcioknfjofkaaGreat
open Go.RowKit
section
variable {P:Program} (w:World)
theorem zGl (base:Nat) (t ty e:TypeId) (i:TypeInfo) (size:Nat) (ht:P.underlying t = some (.slice e)) (hi:P.info? e = some i)
  (v:Value) (n:Nat) (xs:List Value) (hown:w.ownsRow base e size v n xs) (c:Nat):(Builtin.append_ #[t,t] ty #[v,.slice none 0 c]).run P w = .ok v w:=by
 rcases hown.2 with ⟨rfl,rfl⟩ | ⟨g,cap,cur,rfl,_,_,hnc,_⟩
 ·simp [Builtin.append_,run_underlying ht,sizeOf,typeInfo,hi,Builtin.lenOf,Builtin.firstCells]
 ·simp [Builtin.append_,run_underlying ht,sizeOf,typeInfo,hi,Builtin.lenOf,Builtin.firstCells,hnc,storeCells]
theorem zI1 (base : Nat) (t ty e : TypeId) (i : TypeInfo) (z : Value) (size bytes : Nat) (ht : P.underlying t = some (.slice e)) (hi : P.info? e = some i) (hz : i.zero = some z)
    (hsize : i.size = size) (hby : i.bytes = bytes) (hzs : z.cells.size = size) (hsz : 0 < size)
    (v : Value) (n : Nat) (xs : List Value) (hown : w.ownsRow base e size v n xs)
    (B : Nat → Prop) (A : Option Addr) (m c : Nat) (news : List Value) (hl : news.length = m * size) (hr : zBk w B A news) (h1 : ∀ u ∈ news, u.oneCell' = true)
    (h63 : n + m ≤ maxLen) (hbytes : (n + m) * bytes ≤ 140737488355328) (hbase : base ≤ w.heap.size) :
    ∃ v' w', (Builtin.append_ #[t, t] ty #[v, .slice A m c]).run P w = .ok v' w' ∧ w'.ownsRow base e size v' (n + m) (xs ++ news) ∧ w.grownBy w' v.ownBlock ∧
      (v'.ownBlock = v.ownBlock ∨ v'.ownBlock = some w.heap.size) := by
  rcases A with _ | ad
  · have hm : m = 0 := by
      rcases Nat.eq_zero_or_pos m with h0 | h0
      · exact h0
      · obtain ⟨ad, h⟩ := hr.some_ (by rw [hl]; exact Nat.mul_pos h0 hsz)
        cases h
    subst hm
    have hn : news = [] := List.eq_nil_of_length_eq_zero (by simpa using hl)
    subst hn
    exact ⟨v, w, zGl w base t ty e i size ht hi v n xs hown c, by simpa using hown, World.grownBy.refl w _, .inl rfl⟩
  · obtain ⟨v', w', hrun, h2, h3, _, h5⟩ := run_append_own_at (P := P) w base t ty e i z size bytes ht hi hz hsize hby hzs hsz v n xs hown ad m c news hl (hr.add ad rfl) h1 h63 hbytes hbase
    exact ⟨v', w', hrun, h2, h3, h5⟩
theorem zFx {o:Oper} {a:Act} {K:Act→World→Prop} {Q:Exit→Act→World→Prop} (s x:Operand) (t:TypeId)
  (ho:o.op = .call { callee:=.builtin .append,args:=#[s,x],argTypes:=#[t,t] })
  (base:Nat) (e:TypeId) (i:TypeInfo) (z:Value) (size bytes:Nat) (ht:P.underlying t = some (.slice e)) (hi:P.info? e = some i) (hz:i.zero = some z)
  (hsize:i.size = size) (hby:i.bytes = bytes) (hzs:z.cells.size = size) (hsz:0 < size)
  (v:Value) (n:Nat) (xs:List Value) (hs:a.eval s = v) (hown:w.ownsRow base e size v n xs)
  (B:Nat→Prop) (A:Option Addr) (m c:Nat) (news:List Value) (hx:a.eval x = .slice A m c) (hl:news.length = m * size) (hr:zBk w B A news) (h1:∀ u ∈ news,u.oneCell' = true)
  (h63:n + m≤maxLen) (hbytes:(n + m) * bytes≤140737488355328) (hbase:base≤w.heap.size)
  (h:∀ v' w',w'.ownsRow base e size v' (n + m) (xs ++ news)→w.grownBy w' v.ownBlock→(v'.ownBlock = v.ownBlock∨v'.ownBlock = some w.heap.size)→K (a.put o.dst v') w'):o.wp P a w K Q:=by
 obtain ⟨v',w',hrun,h2,h3,h4⟩:=zI1 (P:=P) w base t o.type e i z size bytes ht hi hz hsize hby hzs hsz v n xs hown B A m c news hl hr h1 h63 hbytes hbase
 unfold Oper.wp execOp
 simp only [ho,resolve,invoke,builtin,Sem.run_bind,Sem.run_pure,Result.andThen_ok,List.map_toArray,List.map_cons,List.map_nil,hs,hx,hrun]
 exact h v' w' h2 h3 h4
theorem zBj {ops:Array Oper} {rest:List Oper} {o:Oper} {a:Act} {Q:Exit→Act→World→Prop} (hgd:o.guard = none) (s x:Operand) (t:TypeId)
  (ho:o.op = .call { callee:=.builtin .append,args:=#[s,x],argTypes:=#[t,t] })
  (base:Nat) (e:TypeId) (i:TypeInfo) (z:Value) (size bytes:Nat) (ht:P.underlying t = some (.slice e)) (hi:P.info? e = some i) (hz:i.zero = some z)
  (hsize:i.size = size) (hby:i.bytes = bytes) (hzs:z.cells.size = size) (hsz:0 < size)
  (v:Value) (n:Nat) (xs:List Value) (hs:a.eval s = v) (hown:w.ownsRow base e size v n xs)
  (B:Nat→Prop) (A:Option Addr) (m c:Nat) (news:List Value) (hx:a.eval x = .slice A m c) (hl:news.length = m * size) (hr:zBk w B A news) (h1:∀ u ∈ news,u.oneCell' = true)
  (h63:n + m≤maxLen) (hbytes:(n + m) * bytes≤140737488355328) (hbase:base≤w.heap.size)
  (h:∀ v' w',w'.ownsRow base e size v' (n + m) (xs ++ news)→w.grownBy w' v.ownBlock→(v'.ownBlock = v.ownBlock∨v'.ownBlock = some w.heap.size)→wpList P ops Q rest (a.put o.dst v') w'):wpList P ops Q (o :: rest) a w :=
 wpList_plain hgd fun _ hK=>zFx w s x t ho base e i z size bytes ht hi hz hsize hby hzs hsz v n xs hs hown B A m c news hx hl hr h1 h63 hbytes hbase fun v' w' h2 h3 h4=>hK _ _ (h v' w' h2 h3 h4)
theorem zC6 {ops:Array Oper} {o:Oper} {a:Act} {K:Act→World→Prop} {Q:Exit→Act→World→Prop} {E:Prop} (hgd:o.guard = none) (s x:Operand) (t:TypeId)
  (ho:o.op = .call { callee:=.builtin .append,args:=#[s,x],argTypes:=#[t,t] })
  (base:Nat) (e:TypeId) (i:TypeInfo) (z:Value) (size bytes:Nat) (ht:P.underlying t = some (.slice e)) (hi:P.info? e = some i) (hz:i.zero = some z)
  (hsize:i.size = size) (hby:i.bytes = bytes) (hzs:z.cells.size = size) (hsz:0 < size)
  (v:Value) (n:Nat) (xs:List Value) (hs:a.eval s = v) (hown:w.ownsRow base e size v n xs)
  (B:Nat→Prop) (A:Option Addr) (m c:Nat) (news:List Value) (hx:a.eval x = .slice A m c) (hl:news.length = m * size) (hr:zBk w B A news) (h1:∀ u ∈ news,u.oneCell' = true)
  (h63:n + m≤maxLen) (hbytes:(n + m) * bytes≤140737488355328) (hbase:base≤w.heap.size)
  (h:∀ v' w',w'.ownsRow base e size v' (n + m) (xs ++ news)→w.grownBy w' v.ownBlock→(v'.ownBlock = v.ownBlock∨v'.ownBlock = some w.heap.size)→K (a.put o.dst v') w') :
  if Region.wanted o (yielded ops a.tmps) = true then Oper.wp P o a w K Q else E:=by
 have hw:Region.wanted o (yielded ops a.tmps) = true:=by simp [Region.wanted,hgd]
 rw [if_pos hw]
 exact zFx w s x t ho base e i z size bytes ht hi hz hsize hby hzs hsz v n xs hs hown B A m c news hx hl hr h1 h63 hbytes hbase h
theorem zFc {base e size n:Nat} {v:Value} {cs:List Value} {w1:World} (h:w.ownsRow base e size v n cs) (hb:Below w.heap.size w w1):w1.ownsRow base e size v n cs :=
 h.kept (w':=w1) (row:=none) ⟨hb.os,hb.tape,hb.output,hb.size,fun k hk _=>hb.block k hk⟩ (by cases v.ownBlock <;> simp)
theorem zBv {base e size n:Nat} {v:Value} {cs:List Value} {w1:World} (h:w.ownsRow base e size v n cs) (hg:w.grownBy w1 v.ownBlock) (hB:base≤w.heap.size):Below base w w1 :=
 (Below.refl _ _).grown hg hB (fun k hk=>(h.lt k hk).1)
end
theorem zH8:(Tryz.prog.info? 3).map (fun i=>(i.zero,i.size,i.bytes)) = some (some (.int .i64 0),1,8):=by kernel_rfl
def Owns (w:World) (b:Nat) (xs:List Int) (v:Value):Prop:=w.ownsRow b 3 1 v xs.length (xs.map (.int .i64 ·))∧∀ x ∈ xs,In64 x
theorem Owns.ints {w:World} {b:Nat} {xs:List Int} {v:Value} (h:Owns w b xs v) {S:Nat→Prop} (hB:∀ k,b≤k→k < w.heap.size→S k):zAh w S xs v :=
 zAa.of_own (E:=intE) h.1 (fun k hk=>hB k (h.1.lt k hk).1 (h.1.lt k hk).2) (zB3.2 ⟨rfl,h.2⟩)
theorem zEg {w:World} {ops:Array Oper} {rest:List Oper} {o:Oper} {a:Act} {Q:Exit→Act→World→Prop} (hgd:o.guard = none) (s x:Operand)
  (ho:o.op = .call { callee:=.builtin .append,args:=#[s,x],argTypes:=#[31,31] })
  (b:Nat) (v:Value) (xs ys:List Int) (hs:a.eval s = v) (hown:Owns w b xs v) (S:Nat→Prop) (A:Option Addr) (m c:Nat) (hx:a.eval x = .slice A m c) (hr:zAh w S ys (.slice A m c))
  (hbound:xs.length + ys.length≤1000000000) (hb:b≤w.heap.size)
  (h:∀ v' w',Owns w' b (xs ++ ys) v'→Below b w w'→(v'.ownBlock = v.ownBlock∨v'.ownBlock = some w.heap.size)→wpList Tryz.prog ops Q rest (a.put o.dst v') w'):wpList Tryz.prog ops Q (o :: rest) a w:=by
 obtain ⟨i0,hi0,hz0,hz1,hz2⟩:=info_parts zH8
 obtain ⟨A',cap',rs,e,h1,h2,hrd,hls⟩:=hr
 injection e with e1 e2 e3
 subst e1 e2 e3
 have hl:=hls.len
 have hp:=(zB3.1 hls)
 refine zBj w hgd s x 31 ho b 3 i0 _ 1 8 Tryz.underlying31 hi0 hz0 hz1 hz2 rfl (by omega) v _ _ hs hown.1 S A _ c rs hx hl hrd hls.one (by simp only [maxLen];omega) (by omega) hb ?_
 intro v' w' h3 h4 h5
 refine h v' w' ⟨?_,?_⟩ (zBv _ hown.1 h4 hb) h5
 ·rw [List.length_append,List.map_append,← hp.1];exact h3
 ·intro y hy
  rcases List.mem_append.1 hy with hy | hy
  ·exact hown.2 y hy
  ·exact hp.2 y hy
theorem zDk (w:World) (xs:List Int) (h:∀ x ∈ xs,In64 x) {S:Nat→Prop} (hS:S w.heap.size) (cs:Array Value) (n:Nat) (hc:cs = (xs.map (Value.int .i64 ·)).toArray) (hn:n = xs.length) (hl:n≤maxLen) (e:TypeId) (g:Nat) (hg:g = w.heap.size) :
  zAh (w.alloc (.cells cs e)) S xs (.slice (some ⟨g,0,none⟩) n n):=by
 subst hc hn hg
 refine ⟨_,_,xs.map (Value.int .i64 ·),rfl,Nat.le_refl _,hl,fun _=>⟨w.heap.size,0,rfl,hS,fun j u hu=>?_⟩,zB3.2 ⟨rfl,h⟩⟩
 rw [Nat.zero_add,World.cell?_alloc_new]
 simpa using hu
theorem zCk (w:World):Owns (w.alloc (.cells #[] 3)) w.heap.size [] (.slice (some ⟨w.heap.size,0,none⟩) 0 0) :=
 ⟨World.ownsRow_made w _ 0 (Nat.le_refl _) (by simp) rfl,by simp⟩
theorem Owns.below {w w':World} {b:Nat} {xs:List Int} {v:Value} (h:Owns w b xs v) (hb:Below w.heap.size w w'):Owns w' b xs v:=⟨zFc _ h.1 hb,h.2⟩
def GrowPost (w:World) (e:Ending) (w':World):Prop:=∃ v,e = .returned v∧w'.ownsRow w.heap.size 3 1 v 0 []∧Below w.heap.size w w'
set_option maxHeartbeats 400000 in
theorem grow_nil (w:World) (n:Nat) (hn:n≤1000000000):Calls Tryz.prog 107 #[.slice none 0 0,.int .i64 n] w (GrowPost w):=by
 obtain ⟨i0,hi0,hz0,hz1,hz2⟩:=info_parts zH8
 rcases Nat.eq_zero_or_pos n with h0 | h0
 ·subst h0
  go_enter Tryz.func107,Tryz.ntmps107
  go_wp2
  go_ret
  exact ⟨_,rfl,⟨by simp,.inl ⟨rfl,rfl⟩⟩,Below.refl _ _⟩
 ·have hrz:∀ ty,(Builtin.append_ #[31,3] ty #[.slice none 0 0,.int .i64 (n:Int)]).run Tryz.prog w =
    .ok (.slice (some ⟨w.heap.size,0,none⟩) n (grownCap w n 0 3)) (w.drew.alloc (.cells (Builtin.zeroCells (Value.int .i64 0).cells n ++ Builtin.zeroCells (Value.int .i64 0).cells (grownCap w n 0 3 - n)) 3)):=fun ty=>by
   have h:=Lib.run_append_grow_zeros (P:=Tryz.prog) w 31 3 ty 3 i0 (.int .i64 0) .i64 .i64 Tryz.underlying31 Tryz.underlying3 hi0 hz0 none 0 0 []
    (run_firstCells_none w.drew i0.size 0 0 0) n h0 (by omega) (by omega) (by omega) (by rw [hz2];omega)
    (by rw [hz2];exact growslice_fits (by omega) (by omega))
   simpa using h
  have hG1:n≤grownCap w n 0 3:=grownCap_ge w _ _ _
  have hG2:=grownCap_le_maxLen w n 0 3 (by unfold maxLen;omega)
  have hbelow:Below w.heap.size w (w.drew.alloc (.cells (Builtin.zeroCells (Value.int .i64 0).cells n ++ Builtin.zeroCells (Value.int .i64 0).cells (grownCap w n 0 3 - n)) 3)):=(Below.refl _ _).drew.alloc (Nat.le_refl _) _
  have hown:(w.drew.alloc (.cells (Builtin.zeroCells (Value.int .i64 0).cells n ++ Builtin.zeroCells (Value.int .i64 0).cells (grownCap w n 0 3 - n)) 3)).ownsRow w.heap.size 3 1 (.slice (some ⟨w.heap.size,0,none⟩) 0 (grownCap w n 0 3)) 0 [] :=
   World.ownsRow_made w.drew _ _ (Nat.le_refl _) hG2 (by rw [Array.size_append,size_zeroCells,size_zeroCells];simp [Value.cells];omega)
  obtain ⟨G,hG⟩:∃ G,G = grownCap w n 0 3:=⟨_,rfl⟩
  rw [← hG] at hrz hG1 hG2 hbelow hown
  unfold maxLen at hG2
  obtain ⟨W,hW⟩:∃ W,W = (w.drew.alloc (.cells (Builtin.zeroCells (Value.int .i64 0).cells n ++ Builtin.zeroCells (Value.int .i64 0).cells (G - n)) 3)):=⟨_,rfl⟩
  rw [← hW] at hrz hbelow hown
  have HO:=hid hown
  have HB:=hid hbelow
  clear hown hbelow hG hW
  go_enter Tryz.func107,Tryz.ntmps107
  go_wp2_with (at_builtin;refine Lib.wpList_append_run _ rfl _ _ _ _ rfl _ _ rfl rfl _ _ (hrz _) ?_)
  go_ret
  exact ⟨_,rfl,HO.out,HB.out⟩
theorem zJ5 {w:World} {S:Nat→Prop} {xss:List (List Int)} {A:Option Addr} {cs:List Value} (h3:zBk w S A cs) (h4:zAw (zC0 intE) w S xss cs) {k:Nat} (hk:k < xss.length) :
  ∃ g o A' cap' rs,A = some ⟨g,o,none⟩∧S g∧w.cell? ⟨g,o + k,none⟩ = some (.slice A' xss[k].length cap')∧xss[k].length≤cap'∧cap'≤maxLen∧zBk w S A' rs∧zAw intE w S xss[k] rs:=by
 obtain ⟨g,o,c,e,hb,⟨v,rfl,A',cap',rs,rfl,h5,h6,h7,h8⟩,hc⟩:=zFa h3 h4 hk
 exact ⟨g,o,A',cap',rs,e,hb,by simpa [zC0] using hc 0 _ rfl,h5,h6,h7,h8⟩
theorem zPp {w : World} {S : Nat → Prop} {xss : List (List Int)} {cs : List Value} (h : zAw (zC0 intE) w S xss cs) : ∀ x ∈ xss.flatten, In64 x := by
  induction xss generalizing cs with
  | nil => simp
  | cons xs xss ih =>
    obtain ⟨c, r, rfl, ⟨v, rfl, A, cap, rs, rfl, _, _, _, hl⟩, hr⟩ := h
    intro x hx
    rw [List.flatten_cons, List.mem_append] at hx
    rcases hx with hx | hx
    · exact (zB3.1 hl).2 x hx
    · exact ih hr x hx
def zD7 (w:World) (xs:List Int) (e:Ending) (w':World):Prop:=∃ v,e = .returned v∧Owns w' w.heap.size xs v∧Below w.heap.size w w'
def zGi (w:World) (xs:List Int) (e:Ending) (w':World):Prop:=∃ v,e = .returned v∧zAh w' (Lt w'.heap.size) xs v∧Below w.heap.size w w'
theorem zD7.ints {w w':World} {xs:List Int} {e:Ending} (h:zD7 w xs e w'):zGi w xs e w':=by
 obtain ⟨v,he,ho,hb⟩:=h
 exact ⟨v,he,ho.ints (fun k _ hk=>hk),hb⟩
def zCg (xss:List (List Int)):Nat:=xss.flatten.length
theorem zC9 (xss:List (List Int)) (k:Nat):zCg (xss.take k)≤zCg xss:=by
 unfold zCg
 conv=>rhs;rw [← List.take_append_drop k xss]
 rw [List.flatten_append,List.length_append];omega
theorem zDf (xss:List (List Int)) {k:Nat} (hk:k < xss.length):(xss.take (k + 1)).flatten = (xss.take k).flatten ++ xss[k]:=by
 rw [List.take_succ_eq_append_getElem hk,List.flatten_append,List.flatten_cons,List.flatten_nil,List.append_nil]
set_option maxHeartbeats 1000000 in
theorem zGt (xss:List (List Int)) (w:World) (v:Value) (hv:zAa (zC0 intE) w (Lt w.heap.size) xss v) (hlen:xss.flatten.length≤1000000) :
  Calls Tryz.prog 73 #[v] w (zD7 w xss.flatten):=by
 obtain ⟨A,cap,rs,rfl,hcap,hmax,hrd,hls⟩:=hv
 obtain ⟨i0,hi0,hz0,hz1,hz2⟩:=info_parts zH8
 unfold maxLen at hmax
 have hl1:xss.length≤9223372036854775807:=by omega
 have H:Hid (zBk w (Lt w.heap.size) A rs∧zAw (zC0 intE) w (Lt w.heap.size) xss rs):=⟨hrd,hls⟩
 clear hrd hls
 have hfl:zCg xss≤1000000:=hlen
 clear hlen
 go_enter Tryz.func73,Tryz.ntmps73
 go_wp2
 go_loop [3,11] (fun s i=>∃ k:Nat,k≤xss.length∧i = .int .i64 k∧s = .int .i64 (zCg (xss.take k))) (fun _ i=>xss.length - (intOf i).toNat)
 case atStart=>exact ⟨0,Nat.zero_le _,rfl,rfl⟩
 case round =>
  obtain ⟨k,hk,rfl,rfl⟩:=hrel
  have hf1:=zC9 xss k
  by_cases hlt:k < xss.length
  ·obtain ⟨g,o,A',cap',rs',rfl,hg,c0,_,_,_,_⟩:=zJ5 H.out.1 H.out.2 hlt
   have hf2:=zC9 xss (k + 1)
   have HF:Hid (zCg (xss.take (k + 1)) = zCg (xss.take k) + xss[k].length):=by show _ = _;unfold zCg;rw [zDf xss hlt,List.length_append]
   have hf3:zCg (xss.take k) + xss[k].length≤1000000:=by rw [← HF.out];omega
   have hneg:decide ((zCg (xss.take k):Int) + (xss[k].length:Int) < 0) = false:=by simp;omega
   go_wp2
   go_round
   case rel=>exact ⟨k + 1,by omega,by go_num,by rw [HF.out];go_num⟩
   case measure=>simp [intOf];omega
  ·have hfe:zCg (xss.take k) = zCg xss:=by rw [List.take_of_length_le (by omega)]
   rw [hfe]
   clear hfe
   go_wp2_with fail
   refine (grow_nil w (zCg xss) (by omega)).mono ?_
   rintro e w1 ⟨v1,rfl,hown1,hb1⟩
   have H1:Hid (zBk w1 (Lt w.heap.size) A rs∧zAw (zC0 intE) w1 (Lt w.heap.size) xss rs):=⟨H.out.1.keep (Same.of_below hb1 (Nat.le_refl _)) (fun _ h=>h),H.out.2.keep (Same.of_below hb1 (Nat.le_refl _)) (fun _ h=>h)⟩
   have HO:Hid (w1.ownsRow w.heap.size 3 1 v1 0 []∧Below w.heap.size w w1):=⟨hown1,hb1⟩
   have hz1':=hb1.size
   clear hown1 hb1
   go_wp2_with fail
   go_loopw [6,27] (fun s i wr=>Below w.heap.size w1 wr∧∃ k:Nat,k≤xss.length∧i = .int .i64 k∧wr.ownsRow w.heap.size 3 1 s (zCg (xss.take k)) ((xss.take k).flatten.map (.int .i64 ·))) (fun _ i _=>xss.length - (intOf i).toNat)
   case atStart=>exact ⟨Below.refl _ _,0,Nat.zero_le _,rfl,by simpa [zCg] using HO.out.1⟩
   case round =>
    obtain ⟨hbw,k,hk,rfl,hown⟩:=hrel
    have hf1:=zC9 xss k
    by_cases hlt:k < xss.length
    ·obtain ⟨g,o,A',cap',rs',rfl,hg,c0,_,_,hrd,hls⟩:=zJ5 (H1.out.1.keep (Same.of_below hbw (Nat.le_refl _)) (fun _ h=>h)) (H1.out.2.keep (Same.of_below hbw (Nat.le_refl _)) (fun _ h=>h)) hlt
     have hf2:=zC9 xss (k + 1)
     have HF:Hid (zCg (xss.take (k + 1)) = zCg (xss.take k) + xss[k].length):=by show _ = _;unfold zCg;rw [zDf xss hlt,List.length_append]
     have hf3:zCg (xss.take k) + xss[k].length≤1000000:=by rw [← HF.out];omega
     have hone:=hls.one
     have hle:=hls.len
     have HP:=hid (zB3.1 hls).1
     have HL:Hid (rs'.length = xss[k].length * 1):=hle
     clear hle
     have hsz:w.heap.size≤wr.heap.size:=Nat.le_trans hz1' hbw.size
     have HRd:=hid hrd
     have HOw:=hid hown
     clear hrd hls hown hfl
     go_wp2_with (at_builtin;refine zBj _ rfl (.tmp 31) (.tmp 32) _ rfl w.heap.size 3 i0 _ 1 8 Tryz.underlying31 hi0 hz0 hz1 hz2 rfl (by omega) _ _ _ rfl HOw.out _ _ _ _ _ rfl HL.out HRd.out hone (by simp only [maxLen];omega) (by omega) hsz ?_;intro v2 w2 hown2 hg2 hat2)
     have hb2:Below w.heap.size wr w2:=zBv _ HOw.out hg2 hsz
     rw [HP.out] at hown2
     go_roundw
     case rel=>exact ⟨hbw.trans hb2,k + 1,by omega,by go_num,by rw [HF.out,zDf xss hlt,List.map_append];exact hown2⟩
     case measure=>simp [intOf];omega
    ·have he:xss.take k = xss:=List.take_of_length_le (by omega)
     rw [he] at hown
     have HOw:=hid hown
     have HB:=hid hbw
     clear he hown hbw
     go_wp2_with fail
     go_ret
     exact ⟨_,rfl,⟨HOw.out,zPp H.out.2⟩,HO.out.2.trans HB.out⟩
set_option maxHeartbeats 400000 in
theorem zQp (xs:List Int) (w:World) (v:Value) (hv:zAh w (Lt w.heap.size) xs v) (hlen:xs.length≤1000000) :
  Calls Tryz.prog 90 #[v] w (zD7 w xs):=by
 obtain ⟨A,cap,rs,rfl,hcap,hmax,hrd,hls⟩:=hv
 obtain ⟨i0,hi0,hz0,hz1,hz2⟩:=info_parts zH8
 unfold maxLen at hmax
 have hl1:xs.length≤9223372036854775807:=by omega
 have hone:=hls.one
 have HP:=hid (zB3.1 hls)
 have HL:Hid (rs.length = xs.length * 1):=hls.len
 have HRd:=hid hrd
 clear hls
 rcases A with _ | ad
 ·have h0:xs.length = 0:=by
   rcases Nat.eq_zero_or_pos xs.length with h0 | h0
   ·exact h0
   ·obtain ⟨ad,h⟩:=hrd.some_ (by rw [HL.out];omega);cases h
  have hx:xs = []:=List.eq_nil_of_length_eq_zero h0
  subst hx
  clear hrd HP HL HRd
  have hn:=fun w=>Lib.run_eql_slice_nil (P:=Tryz.prog) w
  go_enter Tryz.func90,Tryz.ntmps90
  go_wp2
  go_ret
  exact ⟨_,rfl,⟨World.ownsRow_nil _ _ _ _,by simp⟩,Below.refl _ _⟩
 ·have hb0:Below w.heap.size w (w.alloc (.cells #[] 3)):=(Below.refl _ _).alloc (Nat.le_refl _) _
  have hv':zAh (w.alloc (.cells #[] 3)) (Lt (w.alloc (.cells #[] 3)).heap.size) xs (.slice (some ad) xs.length cap):=zAa.below (E:=intE) ⟨_,_,rs,rfl,hcap,by simp only [maxLen];omega,HRd.out,zB3.2 HP.out⟩ hb0 hb0.size
  have HV:=hid hv'
  have HB:=hid hb0
  have hn:=fun w=>Lib.run_eql_slice_nil (P:=Tryz.prog) w
  clear hrd HP HL HRd hv' hone hb0
  go_enter Tryz.func90,Tryz.ntmps90
  go_wp2_with (at_builtin;refine zEg rfl (.tmp 5) (.tmp 6) rfl w.heap.size _ [] xs rfl (zCk w) _ _ _ _ rfl HV.out (by simp;omega) (by simp) ?_;intro v' w' hown hb1 _)
  go_ret
  exact ⟨_,rfl,hown,HB.out.trans hb1⟩
def zDb (W:World) (g o:Nat) (t:Tree) (v:Value):Prop :=
 W.cell? ⟨g,o,none⟩ = some (.int .i64 t.kind)∧W.cell? ⟨g,o + 1,none⟩ = some (.string t.text)∧W.cell? ⟨g,o + 2,none⟩ = some (.int .i64 t.cols)∧W.cell? ⟨g,o + 3,none⟩ = some v
def zAu (t:Tree):Prop:=In64 t.kind∧In64 t.cols∧t.text.size≤maxLen
abbrev zCo:=Nat × Nat × Tree
def zFo (w0 W:World) (S:Nat→Prop) (x:zCo):Prop :=
 S x.1∧(∃ a,x.2.1 = a * 4)∧zAu x.2.2∧∃ v,zDb W x.1 x.2.1 x.2.2 v∧zAa zAb w0 (Lt w0.heap.size) x.2.2.kids v
inductive zFw (W:World) (S:Nat→Prop) (P:zCo→Prop):Nat→Nat→Tree→Prop
 | pend (g o:Nat) (t:Tree):P (g,o,t)→zFw W S P g o t
 | done (g o:Nat) (t:Tree) (g' cap:Nat) (A:Option Addr):S g→(∃ a,o = a * 4)→zAu t→zDb W g o t (.slice A t.kids.length cap)→t.kids.length≤cap→cap≤maxLen →
   (0 < t.kids.length→A = some ⟨g',0,none⟩∧S g')→(∀ (i:Nat) (h:i < t.kids.length),zFw W S P g' (i * 4) t.kids[i])→zFw W S P g o t
theorem zDb.keep {W W':World} {g o:Nat} {t:Tree} {v:Value} (h:zDb W g o t v) (hk:∀ j,j < 4→W'.cell? ⟨g,o + j,none⟩ = W.cell? ⟨g,o + j,none⟩):zDb W' g o t v:=by
 have e0:=hk 0 (by omega)
 simp only [Nat.add_zero] at e0
 exact ⟨e0.trans h.1,(hk 1 (by omega)).trans h.2.1,(hk 2 (by omega)).trans h.2.2.1,(hk 3 (by omega)).trans h.2.2.2⟩
theorem zFw.step {w0 W W' : World} {S S' : Nat → Prop} {P P' : zCo → Prop} {g o g' cap' : Nat} {t : Tree} {A' : Option Addr} (hp : zFo w0 W S (g, o, t)) (hP : ∀ x, P x → x = (g, o, t) ∨ P' x) (hS : ∀ k, S k → S' k) (h0 : ∀ k, S k → w0.heap.size ≤ k)
    (hk : ∀ q : Addr, S q.block → q ≠ ⟨g, o + 3, none⟩ → W'.cell? q = W.cell? q) (hc : W'.cell? ⟨g, o + 3, none⟩ = some (.slice A' t.kids.length cap')) (hcap : t.kids.length ≤ cap') (hmax : cap' ≤ maxLen) (hA : 0 < t.kids.length → A' = some ⟨g', 0, none⟩ ∧ S' g')
    (hkids : ∀ (i : Nat) (h : i < t.kids.length), P' (g', i * 4, t.kids[i])) {gr orr : Nat} {tr : Tree} (h : zFw W S P gr orr tr) : zFw W' S' P' gr orr tr := by
  obtain ⟨hg, ⟨a, ha⟩, hok, v, hn, hv⟩ := hp
  simp only at hg ha hok hn hv
  have hsame : ∀ g1 o1 b, S g1 → o1 = b * 4 → ¬ (g1 = g ∧ o1 = o) → ∀ j, j < 4 → W'.cell? ⟨g1, o1 + j, none⟩ = W.cell? ⟨g1, o1 + j, none⟩ := fun g1 o1 b hs hb hne j hj => hk ⟨g1, o1 + j, none⟩ hs (fun e => by
    injection e with e1 e2
    exact hne ⟨e1, by omega⟩)
  have hfirst : ∀ j, j < 3 → W'.cell? ⟨g, o + j, none⟩ = W.cell? ⟨g, o + j, none⟩ := fun j hj => hk ⟨g, o + j, none⟩ hg (fun e => by injection e with _ e2; omega)
  have hf0 := hfirst 0 (by omega)
  simp only [Nat.add_zero] at hf0
  have hn' : zDb W' g o t (.slice A' t.kids.length cap') := ⟨hf0.trans hn.1, (hfirst 1 (by omega)).trans hn.2.1, (hfirst 2 (by omega)).trans hn.2.2.1, hc⟩
  induction h with
  | pend g1 o1 t1 h1 =>
    rcases hP _ h1 with e | h2
    · cases e
      exact .done _ _ _ g' cap' A' (hS _ hg) ⟨a, ha⟩ hok hn' hcap hmax hA (fun i hi => .pend _ _ _ (hkids i hi))
    · exact .pend _ _ _ h2
  | done g1 o1 t1 g2 cap1 A1 h1 h2 h3 h4 h5 h6 h7 h8 ih =>
    obtain ⟨b, hb⟩ := h2
    by_cases he : g1 = g ∧ o1 = o
    · obtain ⟨rfl, rfl⟩ := he
      have ev : v = .slice A1 t1.kids.length cap1 := by
        have := h4.2.2.2
        rw [hn.2.2.2] at this
        exact Option.some.inj this
      subst ev
      obtain ⟨A2, c2, cs, e2, hc1, hc2, hr, hl⟩ := hv
      injection e2 with e3 e4 e5
      have hz : t1.kids.length = 0 := by
        rcases Nat.eq_zero_or_pos t1.kids.length with hz | hz
        · exact hz
        · exfalso
          obtain ⟨hA1, hS1⟩ := h7 hz
          have hlen := hl.len
          obtain ⟨gg, oo, e6, hlt, _⟩ := hr (by rw [hlen, ← e4]; simp [zAb]; omega)
          rw [← e3, hA1] at e6
          cases e6
          have := h0 _ hS1
          have : g2 < w0.heap.size := hlt
          omega
      have k0 : W'.cell? ⟨g1, o1 + 3, none⟩ = some (.slice A' t1.kids.length cap') := by rw [e4]; exact hc
      refine .done _ _ _ g' cap' A' (hS _ hg) ⟨b, hb⟩ h3 ⟨hf0.trans h4.1, (hfirst 1 (by omega)).trans h4.2.1, (hfirst 2 (by omega)).trans h4.2.2.1, k0⟩ (by omega) hmax (fun h => by omega) (fun i hi => by omega)
    · exact .done _ _ _ g2 cap1 A1 (hS _ h1) ⟨b, hb⟩ h3 (h4.keep (hsame g1 o1 b h1 hb he)) h5 h6 (fun h => ⟨(h7 h).1, hS _ (h7 h).2⟩) ih
theorem zFw.keep {W W':World} {S S':Nat→Prop} {P P':zCo→Prop} (hS:∀ k,S k→S' k) (hk:∀ q:Addr,S q.block→W'.cell? q = W.cell? q) (hP:∀ x,P x→P' x) {g o:Nat} {t:Tree} (h:zFw W S P g o t):zFw W' S' P' g o t:=by
 induction h with
 | pend g1 o1 t1 h1=>exact .pend _ _ _ (hP _ h1)
 | done g1 o1 t1 g2 cap1 A1 h1 h2 h3 h4 h5 h6 h7 h8 ih=>exact .done _ _ _ g2 cap1 A1 (hS _ h1) h2 h3 (h4.keep fun j _=>hk ⟨g1,o1 + j,none⟩ h1) h5 h6 (fun h=>⟨(h7 h).1,hS _ (h7 h).2⟩) ih
theorem zFo.keep {w0 W W':World} {S S':Nat→Prop} {x:zCo} (h:zFo w0 W S x) (hS:∀ k,S k→S' k) (hk:∀ j,j < 4→W'.cell? ⟨x.1,x.2.1 + j,none⟩ = W.cell? ⟨x.1,x.2.1 + j,none⟩):zFo w0 W' S' x:=by
 obtain ⟨h1,h2,h3,v,h4,h5⟩:=h
 exact ⟨hS _ h1,h2,h3,v,h4.keep hk,h5⟩
theorem zFo.other {w0 W W':World} {S S':Nat→Prop} {x:zCo} {g o:Nat} (h:zFo w0 W S x) (ho:∃ a,o = a * 4) (hne:¬ (x.1 = g∧x.2.1 = o)) (hS:∀ k,S k→S' k) (hk:∀ q:Addr,S q.block→q≠⟨g,o + 3,none⟩→W'.cell? q = W.cell? q):zFo w0 W' S' x:=by
 obtain ⟨b,hb⟩:=h.2.1
 obtain ⟨a,ha⟩:=ho
 refine h.keep hS fun j hj=>hk ⟨x.1,x.2.1 + j,none⟩ h.1 (fun e=>?_)
 injection e with e1 e2
 exact hne ⟨e1,by omega⟩
theorem zKk {W : World} {S : Nat → Prop} {g : Nat} (hS : S g) : ∀ (ts : List Tree) (off : Nat), (∀ (i : Nat) (h : i < ts.length), ∃ v, zDb W g (off + i * 4) ts[i] v ∧ zAu ts[i] ∧ zAa zAb W S ts[i].kids v) →
    ∃ cs, zAw zAb W S ts cs ∧ ∀ j u, cs[j]? = some u → W.cell? ⟨g, off + j, none⟩ = some u
  | [], off, _ => ⟨[], rfl, fun j u h => by simp at h⟩
  | t :: ts, off, h => by
    obtain ⟨v, hn, hok, hv⟩ := h 0 (by simp)
    simp only [Nat.zero_mul, Nat.add_zero, List.getElem_cons_zero] at hn hok hv
    obtain ⟨cs, hl, hc⟩ := zKk hS ts (off + 4) (fun i hi => by
      obtain ⟨u, h1, h2, h3⟩ := h (i + 1) (by simpa using hi)
      rw [show off + (i + 1) * 4 = off + 4 + i * 4 by omega] at h1
      exact ⟨u, by simpa using h1, by simpa using h2, by simpa using h3⟩)
    refine ⟨[.int .i64 t.kind, .string t.text, .int .i64 t.cols, v] ++ cs, ⟨_, cs, rfl, zB1.2 ⟨v, rfl, hok.1, hok.2.1, hok.2.2, hv⟩, hl⟩, fun j u hu => ?_⟩
    match j, hu with
    | 0, hu => cases hu; exact hn.1
    | 1, hu => cases hu; exact hn.2.1
    | 2, hu => cases hu; exact hn.2.2.1
    | 3, hu => cases hu; exact hn.2.2.2
    | j + 4, hu =>
      have := hc j u (by simpa using hu)
      rw [show off + (j + 4) = off + 4 + j by omega]; exact this
theorem zFw.reads {W : World} {S : Nat → Prop} {P : zCo → Prop} (hP : ∀ x, ¬ P x) {g o : Nat} {t : Tree} (h : zFw W S P g o t) : ∃ v, zDb W g o t v ∧ zAu t ∧ zAa zAb W S t.kids v := by
  induction h with
  | pend g1 o1 t1 h1 => exact absurd h1 (hP _)
  | done g1 o1 t1 g2 cap1 A1 h1 h2 h3 h4 h5 h6 h7 h8 ih =>
    refine ⟨_, h4, h3, ?_⟩
    rcases Nat.eq_zero_or_pos t1.kids.length with hz | hz
    · have e : t1.kids = [] := List.eq_nil_of_length_eq_zero hz
      exact ⟨A1, cap1, [], rfl, h5, h6, zBk.nil_, by rw [e]; rfl⟩
    · obtain ⟨rfl, hS2⟩ := h7 hz
      obtain ⟨cs, hl, hc⟩ := zKk hS2 t1.kids 0 (fun i hi => by
        obtain ⟨v, a, b, c⟩ := ih i hi
        exact ⟨v, by rwa [Nat.zero_add], b, c⟩)
      exact ⟨_, cap1, cs, rfl, h5, h6, fun _ => ⟨g2, 0, rfl, hS2, hc⟩, hl⟩
theorem zAl (w:World) (o:Obj):Below w.heap.size w (w.alloc o):=(Below.refl _ _).alloc (Nat.le_refl _) _
theorem zN5:(Tryz.prog.info? 31).map (fun i=>(i.zero,i.size,i.bytes)) = some (some (.slice none 0 0),1,24):=by kernel_rfl
def zBt (b:Nat) (w:World) (v:Value) (k:Nat):Prop:=b≤k∧k < w.heap.size∧some k≠v.ownBlock
def zBq (w:World) (b:Nat) (xss:List (List Int)) (v:Value):Prop:=∃ cs,w.ownsRow b 31 1 v xss.length cs∧zAw (zC0 intE) w (zBt b w v) xss cs
abbrev zPc (w:World) (S:Nat→Prop) (xss:List (List Int)) (v:Value):Prop:=zAa (zC0 intE) w S xss v
theorem zCu (S:Nat→Prop) (w:World):Same S w w:=fun _ _=>rfl
theorem zBq.rows {w:World} {b:Nat} {xss:List (List Int)} {v:Value} (h:zBq w b xss v):zPc w (fun k=>b≤k∧k < w.heap.size) xss v:=by
 obtain ⟨cs,h1,h2⟩:=h
 exact zAa.of_own (E:=zC0 intE) h1 (fun k hk=>⟨(h1.lt k hk).1,(h1.lt k hk).2⟩) (h2.keep (zCu _ _) (fun k hk=>⟨hk.1,hk.2.1⟩))
theorem zBq.rowsLt {w:World} {b:Nat} {xss:List (List Int)} {v:Value} (h:zBq w b xss v):zPc w (Lt w.heap.size) xss v:=h.rows.keep (zCu _ _) (fun k hk=>hk.2)
theorem zBq.nil (w:World) (b:Nat):zBq w b [] (.slice none 0 0):=⟨[],World.ownsRow_nil _ _ _ _,rfl⟩
theorem zBq.below {w w':World} {b:Nat} {xss:List (List Int)} {v:Value} (h:zBq w b xss v) (hb:Below w.heap.size w w'):zBq w' b xss v:=by
 obtain ⟨cs,h1,h2⟩:=h
 exact ⟨cs,zFc _ h1 hb,h2.keep (S:=zBt b w v) (fun p hp=>hb.cell hp.2.1) (fun k hk=>⟨hk.1,Nat.lt_of_lt_of_le hk.2.1 hb.size,hk.2.2⟩)⟩
theorem zBq.own_lt {w:World} {b:Nat} {xss:List (List Int)} {v:Value} (h:zBq w b xss v):∀ k,v.ownBlock = some k→b≤k∧k < w.heap.size:=by
 obtain ⟨cs,h1,_⟩:=h
 exact fun k hk=>h1.lt k hk
theorem zBq.base {w:World} {b b':Nat} {xss:List (List Int)} {v:Value} (h:zBq w b xss v) (hb:b'≤b):zBq w b' xss v:=by
 obtain ⟨cs,h1,h2⟩:=h
 refine ⟨cs,⟨h1.1,?_⟩,h2.keep (zCu _ _) (fun k hk=>⟨Nat.le_trans hb hk.1,hk.2⟩)⟩
 rcases h1.2 with h | ⟨g,cap,cur,e,hg,r⟩
 ·exact .inl h
 ·exact .inr ⟨g,cap,cur,e,Nat.le_trans hb hg,r⟩
theorem Owns.base {w:World} {b b':Nat} {xs:List Int} {v:Value} (h:Owns w b xs v) (hb:b'≤b):Owns w b' xs v:=by
 refine ⟨⟨h.1.1,?_⟩,h.2⟩
 rcases h.1.2 with h | ⟨g,cap,cur,e,hg,r⟩
 ·exact .inl h
 ·exact .inr ⟨g,cap,cur,e,Nat.le_trans hb hg,r⟩
theorem zFd {w w':World} {v:Value} {g:Nat} {xs:List Int} {u:Value} (h:zAh w (fun k=>k = g) xs u) (hg:w.grownBy w' v.ownBlock) (h1:g < w.heap.size) (h2:some g≠v.ownBlock):zAh w' (fun _=>True) xs u :=
 h.keep (S:=fun k=>k = g) (fun p hp=>World.cell?_of_block (hg.block p.block (by rw [hp];exact h1) (by rw [hp];exact h2))) (fun _ _=>trivial)
theorem zBq.fresh {w w2:World} {b b2:Nat} {xss yss:List (List Int)} {v v2:Value} (h:zBq w b xss v) (h2:zBq w2 b2 yss v2) (hb:b≤b2) (hw:w.heap.size≤b2):zPc w2 (zBt b w2 v) yss v2 :=
 h2.rows.keep (zCu _ _) (fun k hk=>⟨Nat.le_trans hb hk.1,hk.2,fun e=>by have:=(h.own_lt k e.symm).2;omega⟩)
theorem zNs {w2:World} {b b2:Nat} {xs:List Int} {v u:Value} (hu:Owns w2 b2 xs u) (hb:b≤b2) (hv:∀ k,v.ownBlock = some k→k < b2) (h2:b2≤w2.heap.size) (g:Nat) (hg:g = w2.heap.size) (e:TypeId) :
  zPc (w2.alloc (.cells #[u] e)) (zBt b (w2.alloc (.cells #[u] e)) v) [xs] (.slice (some ⟨g,0,none⟩) 1 1):=by
 subst hg
 have hi:zAh (w2.alloc (.cells #[u] e)) (zBt b (w2.alloc (.cells #[u] e)) v) xs u :=
  (hu.ints (S:=fun k=>b2≤k∧k < w2.heap.size) (fun k h1 h2=>⟨h1,h2⟩)).keep (fun p hp=>(zAl _ _).cell hp.2)
   (fun k hk=>⟨Nat.le_trans hb hk.1,by simp;omega,fun e=>by have:=hv k e.symm;omega⟩)
 refine ⟨_,_,[u],rfl,Nat.le_refl _,by simp [maxLen],fun _=>⟨w2.heap.size,0,rfl,⟨by omega,by simp,fun e=>by have:=hv _ e.symm;omega⟩,fun j x hx=>?_⟩,zAw.single (E:=zC0 intE) ⟨u,rfl,hi⟩⟩
 rw [Nat.zero_add,World.cell?_alloc_new]
 simpa using hx
section
variable {w:World} {b:Nat} {xss yss:List (List Int)} {v:Value}
theorem zI6 {w':World} {v':Value} {A:Option Addr} {m c:Nat} {cs rs:List Value} (h1:w.ownsRow b 31 1 v xss.length cs) (h2:zAw (zC0 intE) w (zBt b w v) xss cs) (hls:zAw (zC0 intE) w (zBt b w v) yss rs)
  (h3:w'.ownsRow b 31 1 v' (xss.length + yss.length) (cs ++ rs)) (h4:w.grownBy w' v.ownBlock) (h5:v'.ownBlock = v.ownBlock∨v'.ownBlock = some w.heap.size):zBq w' b (xss ++ yss) v':=by
 refine ⟨cs ++ rs,by rw [List.length_append];exact h3,?_⟩
 refine (h2.append hls).keep (S:=zBt b w v) (fun p hp=>World.cell?_of_block (h4.block p.block hp.2.1 hp.2.2)) (fun k hk=>⟨hk.1,Nat.lt_of_lt_of_le hk.2.1 h4.size,?_⟩)
 rcases h5 with h5 | h5
 ·rw [h5];exact hk.2.2
 ·rw [h5];intro e;injection e with e;have:=hk.2.1;omega
theorem zOa {ops:Array Oper} {rest:List Oper} {o:Oper} {a:Act} {Q:Exit→Act→World→Prop} (hgd:o.guard = none) (s x:Operand)
  (ho:o.op = .call { callee:=.builtin .append,args:=#[s,x],argTypes:=#[27,27] })
  (b:Nat) (v:Value) (xss yss:List (List Int)) (hs:a.eval s = v) (hown:zBq w b xss v) (A:Option Addr) (m c:Nat) (hx:a.eval x = .slice A m c) (hr:zPc w (zBt b w v) yss (.slice A m c))
  (hbound:xss.length + yss.length≤1000000000) (hb:b≤w.heap.size)
  (h:∀ v' w',zBq w' b (xss ++ yss) v'→Below b w w'→wpList Tryz.prog ops Q rest (a.put o.dst v') w'):wpList Tryz.prog ops Q (o :: rest) a w:=by
 obtain ⟨i0,hi0,hz0,hz1,hz2⟩:=info_parts zN5
 obtain ⟨A',cap',rs,e,h1,h2,hrd,hls⟩:=hr
 injection e with e1 e2 e3
 subst e1 e2 e3
 obtain ⟨cs,ho1,ho2⟩:=hown
 have hl:=hls.len
 refine zBj w hgd s x 27 ho b 31 i0 _ 1 24 Tryz.underlying27 hi0 hz0 hz1 hz2 rfl (by omega) v _ _ hs ho1 _ A _ c rs hx hl hrd hls.one (by simp only [maxLen];omega) (by omega) hb ?_
 intro v' w' h3 h4 h5
 exact h v' w' (zI6 (A:=A) (m:=0) (c:=0) ho1 ho2 hls h3 h4 h5) (zBv _ ho1 h4 hb)
theorem zJ2 {ops:Array Oper} {o:Oper} {a:Act} {K:Act→World→Prop} {Q:Exit→Act→World→Prop} {E:Prop} (hgd:o.guard = none) (s x:Operand)
  (ho:o.op = .call { callee:=.builtin .append,args:=#[s,x],argTypes:=#[27,27] })
  (b:Nat) (v:Value) (xss yss:List (List Int)) (hs:a.eval s = v) (hown:zBq w b xss v) (A:Option Addr) (m c:Nat) (hx:a.eval x = .slice A m c) (hr:zPc w (zBt b w v) yss (.slice A m c))
  (hbound:xss.length + yss.length≤1000000000) (hb:b≤w.heap.size)
  (h:∀ v' w',zBq w' b (xss ++ yss) v'→Below b w w'→K (a.put o.dst v') w') :
  if Region.wanted o (yielded ops a.tmps) = true then Oper.wp Tryz.prog o a w K Q else E:=by
 obtain ⟨i0,hi0,hz0,hz1,hz2⟩:=info_parts zN5
 obtain ⟨A',cap',rs,e,h1,h2,hrd,hls⟩:=hr
 injection e with e1 e2 e3
 subst e1 e2 e3
 obtain ⟨cs,ho1,ho2⟩:=hown
 have hl:=hls.len
 refine zC6 w hgd s x 27 ho b 31 i0 _ 1 24 Tryz.underlying27 hi0 hz0 hz1 hz2 rfl (by omega) v _ _ hs ho1 _ A _ c rs hx hl hrd hls.one (by simp only [maxLen];omega) (by omega) hb ?_
 intro v' w' h3 h4 h5
 exact h v' w' (zI6 (A:=A) (m:=0) (c:=0) ho1 ho2 hls h3 h4 h5) (zBv _ ho1 h4 hb)
theorem zBl {ops:Array Oper} {o:Oper} {a:Act} {K:Act→World→Prop} {Q:Exit→Act→World→Prop} {E:Prop} (hgd:o.guard = none) (s x:Operand)
  (ho:o.op = .call { callee:=.builtin .append,args:=#[s,x],argTypes:=#[31,31] })
  (b:Nat) (v:Value) (xs ys:List Int) (hs:a.eval s = v) (hown:Owns w b xs v) (S:Nat→Prop) (A:Option Addr) (m c:Nat) (hx:a.eval x = .slice A m c) (hr:zAh w S ys (.slice A m c))
  (hbound:xs.length + ys.length≤1000000000) (hb:b≤w.heap.size)
  (h:∀ v' w',Owns w' b (xs ++ ys) v'→Below b w w'→w.grownBy w' v.ownBlock→K (a.put o.dst v') w') :
  if Region.wanted o (yielded ops a.tmps) = true then Oper.wp Tryz.prog o a w K Q else E:=by
 obtain ⟨i0,hi0,hz0,hz1,hz2⟩:=info_parts zH8
 obtain ⟨A',cap',rs,e,h1,h2,hrd,hls⟩:=hr
 injection e with e1 e2 e3
 subst e1 e2 e3
 have hl:=hls.len
 have hp:=(zB3.1 hls)
 refine zC6 w hgd s x 31 ho b 3 i0 _ 1 8 Tryz.underlying31 hi0 hz0 hz1 hz2 rfl (by omega) v _ _ hs hown.1 S A _ c rs hx hl hrd hls.one (by simp only [maxLen];omega) (by omega) hb ?_
 intro v' w' h3 h4 h5
 refine h v' w' ⟨?_,?_⟩ (zBv _ hown.1 h4 hb) h4
 ·rw [List.length_append,List.map_append,← hp.1];exact h3
 ·intro y hy
  rcases List.mem_append.1 hy with hy | hy
  ·exact hown.2 y hy
  ·exact hp.2 y hy
end
end Go.Proofs.YtbjcioknfjofkaaGreat
