/- Texts put together. -/
import Derived.Test.YthpngeboknmllaaQe06f35c01b
set_option linter.unusedVariables false
set_option linter.unusedSimpArgs false
namespace Go.Proofs.Ythpngeboknmllaa
open Go.RowKit
def bytes (s:ByteArray):List Int:=s.data.toList.map fun b=>(b.toNat:Int)
theorem bytes_len (s:ByteArray):(bytes s).length = s.size:=by simp only [bytes,List.length_map,Array.length_toList];rfl
theorem bytes_get (s:ByteArray) (k:Nat) (h:k < s.size):(bytes s)[k]'(by rw [bytes_len];exact h) = (s[k].toNat:Int):=by simp only [bytes,List.getElem_map];rfl
theorem bytes_drop (s:ByteArray) (k:Nat) (h:k < s.size):(bytes s).drop k = (s[k].toNat:Int) :: (bytes s).drop (k + 1):=by
 rw [List.drop_eq_getElem_cons (by rw [bytes_len];exact h),bytes_get s k h]
theorem bytes_drop_end (s:ByteArray) (k:Nat) (h:¬ k < s.size):(bytes s).drop k = []:=List.drop_of_length_le (by rw [bytes_len];omega)
def printableS (l:List Int):Bool:=l.all fun c=>decide (32≤c∧c≤126)
end Go.Proofs.Ythpngeboknmllaa
