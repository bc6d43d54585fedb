/- Texts put together. -/
import Derived.Test.YthpngeboknmllaaQebab4a05ec
set_option linter.unusedVariables false
set_option linter.unusedSimpArgs false
namespace Go.Proofs.Ythpngeboknmllaa
open Go.RowKit
def strE:Enc ByteArray where
 size:=1
 R _ _ s cs:=cs = [.string s]∧s.size≤maxLen
 pos:=by omega
 len:=by rintro _ _ _ _ ⟨rfl,_⟩;rfl
 one:=by rintro _ _ _ _ ⟨rfl,_⟩;simp [Value.oneCell']
 keep:=fun h _ _=>h
theorem strs_at {w:World} {S:Nat→Prop} {xs:List ByteArray} {A:Option Addr} {cs:List Value} (h3:Reads w S A cs) (h4:ListR strE w S xs cs) {k:Nat} (hk:k < xs.length) :
  ∃ g o,A = some ⟨g,o,none⟩∧S g∧w.cell? ⟨g,o + k,none⟩ = some (.string xs[k]):=by
 obtain ⟨g,o,c,e,hb,⟨rfl,hi⟩,hc⟩:=slice_at h3 h4 hk
 exact ⟨g,o,e,hb,by simpa [strE] using hc 0 _ rfl⟩
def inS (l:List ByteArray) (s:ByteArray):Bool:=l.any fun x=>x.toList == s.toList
theorem inS_drop {l:List ByteArray} {k:Nat} (h:k < l.length) (s:ByteArray):inS (l.drop k) s = ((l[k].toList == s.toList) || inS (l.drop (k + 1)) s):=by
 rw [List.drop_eq_getElem_cons h];rfl
set_option maxHeartbeats 400000 in
theorem in_q (l : List ByteArray) (s : ByteArray) (w : World) (v : Value) (S : Nat → Prop) (hv : SliceR strE w S l v) :
    Calls Try.prog 35 #[v, .string s] w fun e w' => e = .returned (.bool (inS l s)) ∧ w = w' := by
  obtain ⟨A, cap, rs, rfl, hcap, hmax, hrd, hls⟩ := hv
  unfold maxLen at hmax
  have hl : l.length ≤ 9223372036854775807 := by omega
  have H : Hid (Reads w S A rs ∧ ListR strE w S l rs) := ⟨hrd, hls⟩
  clear hrd hls
  go_enter Try.func35, Try.ntmps35
  go_wp2
  go_loop [5] (fun i => ∃ k : Nat, k ≤ l.length ∧ i = .int .i64 k ∧ inS (l.drop k) s = inS l s) (fun i => l.length - (intOf i).toNat)
  case atStart => exact ⟨0, Nat.zero_le _, rfl, rfl⟩
  case round =>
    obtain ⟨k, hk, rfl, hrest⟩ := hrel
    have HR := hid hrest
    clear hrest
    by_cases hlt : k < l.length
    · obtain ⟨g, o, rfl, hg, c0⟩ := strs_at H.out.1 H.out.2 hlt
      have HN := hid (inS_drop hlt s)
      cases hq : (l[k].toList == s.toList) with
      | true =>
        have HF : Hid (inS l s = true) := by show _ = _; rw [← HR.out, HN.out, hq]; rfl
        go_wp2
        go_ret
        exact ⟨by rw [HF.out]; rfl, rfl⟩
      | false =>
        have HF : Hid (inS (l.drop (k + 1)) s = inS l s) := by show _ = _; rw [← HR.out, HN.out, hq]; rfl
        go_wp2
        go_round
        case rel => exact ⟨k + 1, by omega, by go_num, HF.out⟩
        case measure => simp [intOf]; omega
    · have HF : Hid (inS l s = false) := by show _ = _; rw [← HR.out, List.drop_of_length_le (by omega)]; rfl
      go_wp2
      go_ret
      exact ⟨by rw [HF.out]; rfl, rfl⟩
def keywordsL:List ByteArray:=[⟨#[102,114,97,99]⟩,⟨#[114,111,111,116]⟩,⟨#[109,97,116,114,105,120]⟩,⟨#[102,101,110,99,101]⟩]
def accentsL:List ByteArray:=[⟨#[104,97,116]⟩,⟨#[98,97,114]⟩,⟨#[118,101,99]⟩,⟨#[100,111,116]⟩,⟨#[116,105,108,100,101]⟩,⟨#[99,104,101,99,107]⟩]
def StrsPost (w:World) (l:List ByteArray) (e:Ending) (w':World):Prop:=∃ A c,e = .returned (.slice A l.length c)∧SliceR strE w' (Lt w'.heap.size) l (.slice A l.length c)∧Below w.heap.size w w'
theorem strs_lit (w:World) (l:List ByteArray) (hl:∀ s ∈ l,s.size≤maxLen) (hn:l.length≤maxLen) (e:TypeId) (arr:Array Value) (harr:arr = (l.map Value.string).toArray) :
  SliceR strE (w.alloc (.cells arr e)) (Lt (w.alloc (.cells arr e)).heap.size) l (.slice (some ⟨w.heap.size,0,none⟩) l.length l.length):=by
 subst harr
 refine ⟨_,_,l.map Value.string,rfl,Nat.le_refl _,hn,fun _=>⟨w.heap.size,0,rfl,by unfold Lt;simp,fun j u hu=>?_⟩,?_⟩
 ·rw [Nat.zero_add,World.cell?_alloc_new];simpa using hu
 ·clear hn
  induction l with
  | nil=>rfl
  | cons s l ih=>exact ⟨[.string s],_,rfl,⟨rfl,hl s (by simp)⟩,by
    have:=ih (fun s hs=>hl s (by simp [hs]))
    have key:∀ (W W':World) (S S':Nat→Prop) (xs:List ByteArray) (cs:List Value),ListR strE W S xs cs→ListR strE W' S' xs cs:=by
     intro W W' S S' xs
     induction xs with
     | nil=>intro cs h;exact h
     | cons x xs ih2=>rintro cs ⟨h,r,e1,e2,e3⟩;exact ⟨h,r,e1,e2,ih2 r e3⟩
    exact key _ _ _ _ _ _ this⟩
set_option maxHeartbeats 400000 in
theorem keywords_any (w:World):Calls Try.prog 36 #[] w (StrsPost w keywordsL):=by
 have HL:=hid (strs_lit w keywordsL (by unfold keywordsL;intro s hs;simp only [List.mem_cons,List.not_mem_nil,or_false] at hs;rcases hs with rfl | rfl | rfl | rfl <;> decide) (by decide) 9 _ rfl)
 go_enter Try.func36,Try.ntmps36
 go_wp2
 go_ret
 exact ⟨_,_,rfl,HL.out,(Below.refl _ _).alloc (Nat.le_refl _) _⟩
set_option maxHeartbeats 400000 in
theorem accents_any (w:World):Calls Try.prog 37 #[] w (StrsPost w accentsL):=by
 have HL:=hid (strs_lit w accentsL (by unfold accentsL;intro s hs;simp only [List.mem_cons,List.not_mem_nil,or_false] at hs;rcases hs with rfl | rfl | rfl | rfl | rfl | rfl <;> decide) (by decide) 9 _ rfl)
 go_enter Try.func37,Try.ntmps37
 go_wp2
 go_ret
 exact ⟨_,_,rfl,HL.out,(Below.refl _ _).alloc (Nat.le_refl _) _⟩
end Go.Proofs.Ythpngeboknmllaa
