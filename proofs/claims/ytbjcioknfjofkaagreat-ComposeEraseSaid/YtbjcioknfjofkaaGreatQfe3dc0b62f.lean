/- Texts put together. -/
import Derived.Test.YtbjcioknfjofkaaGreatQ2a6bd4da00
import Derived.Deep.QuietTactic
import Derived.BigQuiet
set_option linter.unusedVariables false
set_option linter.unusedSimpArgs false
namespace Go.Proofs.YtbjcioknfjofkaaGreat
open Go.RowKit
def cmpS:List Int→List Int→Int
 | [],[]=>0
 | [],_ :: _=>-1
 | _ :: _,[]=>1
 | a :: l,b :: r=>if a < b then -1 else if b < a then 1 else cmpS l r
set_option maxHeartbeats 1000000 in
theorem zIn (xs ys:List Int) (w:World) (a b:Value) (B B':Nat→Prop) (ha:zAh w B xs a) (hb:zAh w B' ys b) :
  Calls Tryz.prog 64 #[a,b] w fun e w'=>e = .returned (.int .i64 (cmpS xs ys))∧∃ n,w' = w.drewN n:=by
 obtain ⟨A,cap,rs,rfl,hcap,hmax,hrd,hls⟩:=ha
 obtain ⟨A',cap',rs',rfl,hcap',hmax',hrd',hls'⟩:=hb
 unfold maxLen at hmax hmax'
 have hl1:xs.length≤9223372036854775807:=by omega
 have hl2:ys.length≤9223372036854775807:=by omega
 have H:Hid ((zBk w B A rs∧zAw intE w B xs rs)∧(zBk w B' A' rs'∧zAw intE w B' ys rs')):=⟨⟨hrd,hls⟩,⟨hrd',hls'⟩⟩
 clear hrd hls hrd' hls'
 go_enter Tryz.func64,Tryz.ntmps64
 go_wp2
 go_loopw [5] (fun i wr=>(∃ n,wr = w.drewN n)∧∃ (k:Nat),k≤xs.length∧k≤ys.length∧i = .int .i64 k∧cmpS (xs.drop k) (ys.drop k) = cmpS xs ys) (fun i _=>xs.length - (intOf i).toNat)
 case atStart=>exact ⟨⟨0,rfl⟩,0,Nat.zero_le _,Nat.zero_le _,rfl,rfl⟩
 case round =>
  obtain ⟨⟨n,rfl⟩,k,hk,hk',rfl,hrest⟩:=hrel
  have HR:=hid hrest
  clear hrest
  by_cases hx:k < xs.length
  ·by_cases hy:k < ys.length
   ·obtain ⟨g,o,rfl,hg,hi,c0⟩:=zB2 H.out.1.1 H.out.1.2 hx
    obtain ⟨g',o',rfl,hg',hi',c0'⟩:=zB2 H.out.2.1 H.out.2.2 hy
    have i1:(k:Int) < (xs.length:Int):=by omega
    have i2:(k:Int) < (ys.length:Int):=by omega
    by_cases h1:xs[k] < ys[k]
    ·have HF:Hid (cmpS (xs.drop k) (ys.drop k) = -1):=by show _ = _;rw [List.drop_eq_getElem_cons hx,List.drop_eq_getElem_cons hy,cmpS,if_pos h1]
     go_wp2
     go_quiet (fail)
     go_wp2
     go_ret
     exact ⟨by rw [← HR.out,HF.out];rfl,by first | exact ⟨_,rfl⟩ | (simp only [World.drewN_drewN];exact ⟨_,rfl⟩)⟩
    ·by_cases h2:ys[k] < xs[k]
     ·have HF:Hid (cmpS (xs.drop k) (ys.drop k) = 1):=by show _ = _;rw [List.drop_eq_getElem_cons hx,List.drop_eq_getElem_cons hy,cmpS,if_neg h1,if_pos h2]
      have hd:decide (xs[k] < ys[k]) = false:=by simpa using h1
      go_wp2
      go_quiet (fail)
      go_wp2
      go_quiet (fail)
      go_wp2
      go_ret
      exact ⟨by rw [← HR.out,HF.out];rfl,by first | exact ⟨_,rfl⟩ | (simp only [World.drewN_drewN];exact ⟨_,rfl⟩)⟩
     ·have HF:Hid (cmpS (xs.drop k) (ys.drop k) = cmpS (xs.drop (k + 1)) (ys.drop (k + 1))):=by show _ = _;rw [List.drop_eq_getElem_cons hx,List.drop_eq_getElem_cons hy,cmpS,if_neg h1,if_neg h2]
      have hd:decide (xs[k] < ys[k]) = false:=by simpa using h1
      have hd2:decide (ys[k] < xs[k]) = false:=by simpa using h2
      go_wp2
      go_quiet (fail)
      go_wp2
      go_quiet (fail)
      go_wp2
      go_roundw
      case rel=>exact ⟨by first | exact ⟨_,rfl⟩ | (simp only [World.drewN_drewN];exact ⟨_,rfl⟩),k + 1,by omega,by omega,by go_num,by rw [← HR.out,HF.out]⟩
      case measure=>simp [intOf];omega
   ·have HF:Hid (cmpS (xs.drop k) (ys.drop k) = 1):=by show _ = _;rw [List.drop_eq_getElem_cons hx,List.drop_of_length_le (show ys.length≤k by omega),cmpS]
    have hlt:ys.length < xs.length:=by omega
    have hle:¬ xs.length < ys.length:=by omega
    have e1:decide ((xs.length:Int) < (ys.length:Int)) = false:=by simp;omega
    have e2:decide ((ys.length:Int) < (xs.length:Int)) = true:=by simp;omega
    go_wp2
    go_ret
    exact ⟨by rw [← HR.out,HF.out];rfl,by first | exact ⟨_,rfl⟩ | (simp only [World.drewN_drewN];exact ⟨_,rfl⟩)⟩
  ·have HF:Hid (cmpS (xs.drop k) (ys.drop k) = if k < ys.length then -1 else 0):=by
    show _ = _
    rw [List.drop_of_length_le (show xs.length≤k by omega)]
    split
    ·rename_i h;rw [List.drop_eq_getElem_cons h,cmpS]
    ·rename_i h;rw [List.drop_of_length_le (by omega),cmpS]
   by_cases hy:k < ys.length
   ·rw [if_pos hy] at HF
    go_wp2
    go_ret
    exact ⟨by rw [← HR.out,HF.out];rfl,by first | exact ⟨_,rfl⟩ | (simp only [World.drewN_drewN];exact ⟨_,rfl⟩)⟩
   ·rw [if_neg hy] at HF
    go_wp2
    go_ret
    exact ⟨by rw [← HR.out,HF.out];rfl,by first | exact ⟨_,rfl⟩ | (simp only [World.drewN_drewN];exact ⟨_,rfl⟩)⟩
theorem zE8 : ∀ xs ys : List Int, cmpS xs ys = 0 ↔ xs = ys
  | [], [] => by simp [cmpS]
  | [], _ :: _ => by simp [cmpS]
  | _ :: _, [] => by simp [cmpS]
  | a :: l, b :: r => by
    have ih := zE8 l r
    unfold cmpS
    split
    · simp; intro h; omega
    · split
      · simp; intro h; omega
      · rw [ih, List.cons.injEq]
        constructor
        · intro h; exact ⟨by omega, h⟩
        · intro h; exact h.2
theorem zPl (xs ys:List Int) (w:World) (a b:Value) (B B':Nat→Prop) (ha:zAh w B xs a) (hb:zAh w B' ys b) :
  Calls Tryz.prog 33 #[a,b] w fun e w'=>e = .returned (.bool (decide (cmpS xs ys = 0)))∧∃ n,w' = w.drewN n:=by
 by_cases h:cmpS xs ys = 0
 ·have e1:(cmpS xs ys == 0) = true:=by simpa using h
  have hd:decide (cmpS xs ys = 0) = true:=by simpa using h
  rw [hd]
  clear h hd
  go_enter Tryz.func33,Tryz.ntmps33
  go_wp2_with fail
  refine (zIn xs ys w a b B B' ha hb).mono ?_
  rintro e w1 ⟨rfl,hd1⟩
  go_wp2_with fail
  go_ret
  exact ⟨rfl,hd1⟩
 ·have e1:(cmpS xs ys == 0) = false:=by simpa using h
  have hd:decide (cmpS xs ys = 0) = false:=by simpa using h
  rw [hd]
  clear h hd
  go_enter Tryz.func33,Tryz.ntmps33
  go_wp2_with fail
  refine (zIn xs ys w a b B B' ha hb).mono ?_
  rintro e w1 ⟨rfl,hd1⟩
  go_wp2_with fail
  go_ret
  exact ⟨rfl,hd1⟩
set_option maxHeartbeats 1000000 in
theorem equal_q (xs ys:List Int) (w:World) (a b:Value) (B B':Nat→Prop) (ha:zAh w B xs a) (hb:zAh w B' ys b) :
  Calls Tryz.prog 111 #[a,b] w fun e w'=>e = .returned (.bool (decide (xs = ys)))∧∃ n,w' = w.drewN n:=by
 obtain ⟨A,cap,rs,rfl,hcap,hmax,hrd,hls⟩:=ha
 obtain ⟨A',cap',rs',rfl,hcap',hmax',hrd',hls'⟩:=hb
 unfold maxLen at hmax hmax'
 have hl1:xs.length≤9223372036854775807:=by omega
 have hl2:ys.length≤9223372036854775807:=by omega
 have H:Hid ((zBk w B A rs∧zAw intE w B xs rs)∧(zBk w B' A' rs'∧zAw intE w B' ys rs')):=⟨⟨hrd,hls⟩,⟨hrd',hls'⟩⟩
 clear hrd hls hrd' hls'
 by_cases hlen:xs.length = ys.length
 ·have e0:((xs.length:Int) != (ys.length:Int)) = false:=by rw [hlen];simp
  have HL:=hid hlen
  clear hlen
  go_enter Tryz.func111,Tryz.ntmps111
  go_wp2
  go_loopw [13] (fun i wr=>(∃ n,wr = w.drewN n)∧∃ (k:Nat),k≤xs.length∧i = .int .i64 k∧decide (xs.drop k = ys.drop k) = decide (xs = ys)) (fun i _=>xs.length - (intOf i).toNat)
  case atStart=>exact ⟨⟨0,rfl⟩,0,Nat.zero_le _,rfl,rfl⟩
  case round =>
   obtain ⟨⟨n,rfl⟩,k,hk,rfl,hrest⟩:=hrel
   have HR:=hid hrest
   clear hrest
   by_cases hx:k < xs.length
   ·have hy:k < ys.length:=by have:=HL.out;omega
    obtain ⟨g,o,rfl,hg,hi,c0⟩:=zB2 H.out.1.1 H.out.1.2 hx
    obtain ⟨g',o',rfl,hg',hi',c0'⟩:=zB2 H.out.2.1 H.out.2.2 hy
    have i1:(k:Int) < (xs.length:Int):=by omega
    have i2:(k:Int) < (ys.length:Int):=by omega
    by_cases h1:xs[k] = ys[k]
    ·have HF:Hid (decide (xs.drop (k + 1) = ys.drop (k + 1)) = decide (xs.drop k = ys.drop k)):=by show _ = _;rw [List.drop_eq_getElem_cons hx,List.drop_eq_getElem_cons hy];simp only [List.cons.injEq,h1,true_and]
     have hd:(xs[k] != ys[k]) = false:=by simpa using h1
     clear h1
     go_wp2
     go_quiet (fail)
     go_wp2
     go_roundw
     case rel=>exact ⟨by first | exact ⟨_,rfl⟩ | (simp only [World.drewN_drewN];exact ⟨_,rfl⟩),k + 1,by omega,by go_num,by rw [← HR.out,HF.out]⟩
     case measure=>simp [intOf];omega
    ·have HF:Hid (decide (xs.drop k = ys.drop k) = false):=by show _ = _;rw [List.drop_eq_getElem_cons hx,List.drop_eq_getElem_cons hy];exact decide_eq_false (fun h=>h1 (List.cons.inj h).1)
     have hd:(xs[k] != ys[k]) = true:=by simpa using h1
     clear h1
     go_wp2
     go_quiet (fail)
     go_wp2
     go_ret
     exact ⟨by rw [← HR.out,HF.out];rfl,by first | exact ⟨_,rfl⟩ | (simp only [World.drewN_drewN];exact ⟨_,rfl⟩)⟩
   ·have HF:Hid (decide (xs.drop k = ys.drop k) = true):=by
     have:=HL.out
     show _ = _;rw [List.drop_of_length_le (by omega),List.drop_of_length_le (by omega)];simp
    go_wp2
    go_ret
    exact ⟨by rw [← HR.out,HF.out];rfl,by first | exact ⟨_,rfl⟩ | (simp only [World.drewN_drewN];exact ⟨_,rfl⟩)⟩
 ·have e0:((xs.length:Int) != (ys.length:Int)) = true:=by simp;omega
  have HF:Hid (decide (xs = ys) = false):=by show _ = _;simp;intro h;exact hlen (by rw [h])
  clear hlen
  go_enter Tryz.func111,Tryz.ntmps111
  go_wp2
  go_ret
  exact ⟨by rw [HF.out];rfl,0,rfl⟩
end Go.Proofs.YtbjcioknfjofkaaGreat
