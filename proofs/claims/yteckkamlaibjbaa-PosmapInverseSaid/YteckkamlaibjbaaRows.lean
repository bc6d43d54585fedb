/-
  NARROWER THAN 'FOR EVERY INPUT', by the rows' own cells (each row's printed sentence says how): PosmapValid: loops · PosmapInverse: loops · PosmapMapAll: loops · PosmapScript: loops · PosmapMap: loops · PosmapContent: loops.
  DERIVED. THE GIVEN ROWS OF THIS SEAT. 6 by the template 'for every input the law returns true; each argument reads behind the call as it read before'; 0 by the template 'total and deterministic' (their statements: YteckkamlaibjbaaTotals.lean).
  GIVEN WITH THE SEED: the statements are not yours to turn. If you find one false, say at which input.
  Laid BY PROGRAM, IN A SANDBOX (cutbox-rows.mjs): the forced cells as the released guide's own fill.sh prints them over the translation 4c23fb1a1dc44c04… (all of the seat's roots in one cut). By AI agents, Wed Nov 11 2026. No macro, syntax, notation, axiom, sorry.
-/
import Derived.Test.YteckkamlaibjbaaChecked
import GoSem.Claim
import GoSem.ClaimJoined
import GoSem.ClaimMapViews
import Derived.JoinedTies
import Derived.KernelRfl
namespace Go.Proofs.Yteckkamlaibjbaa
/- THE CELL 'sum', in the pinned program and in every row, IS THE sha256 OF THE DUMP (.gsa) THAT YteckkamlaibjbaaProg.lean LOADS. Nothing in Lean hashes anything: it is a label: what it is worth is what the hold of that sum in a sandbox is worth. -/
noncomputable def Try.pinned : Pinned := { name := "yteckkamlaibjbaa", sum := "4c23fb1a1dc44c041297173f0b3b4021254f2def82c1441d13d1018fa6dd45f1", checked := Try.checked }
namespace Rows
def none {H : Type} : Left H := { results := [], args := [] }

/-- 'vinculumlaw13.PosmapValid': WHATEVER THE INPUT: true; the input reads as it did. -/
def posmapValidSpec : ChangeSpec := { name := "posmapValid", fn := fun _ => fun
  | [d1, d2, d3] => { results := [.lit (.bool true)], args := [d1, d2, d3] }
  | _ => none }
def posmapValidRow : OpenClaim := { program := "yteckkamlaibjbaa", sum := "4c23fb1a1dc44c041297173f0b3b4021254f2def82c1441d13d1018fa6dd45f1", func := "vinculum/vinculumlaw13.PosmapValid", spec := "posmapValid", recurses := true, loops := true, apart := false }
def PosmapValidSaid : Prop := posmapValidRow.holds Try.pinned (OpenSpec.ofChange posmapValidSpec)

/-- ITS FALSE NEIGHBOUR: 'it returns false'. Refute it at one input. -/
def posmapValidWrong : ChangeSpec := { name := "posmapValid", fn := fun _ => fun
  | [d1, d2, d3] => { results := [.lit (.bool false)], args := [d1, d2, d3] }
  | _ => none }
def PosmapValidWrongFalsely : Prop := posmapValidRow.holds Try.pinned (OpenSpec.ofChange posmapValidWrong)

/-- 'vinculumlaw13.PosmapInverse': WHATEVER THE INPUT: true; the input reads as it did. -/
def posmapInverseSpec : ChangeSpec := { name := "posmapInverse", fn := fun _ => fun
  | [d1, d2, d3] => { results := [.lit (.bool true)], args := [d1, d2, d3] }
  | _ => none }
def posmapInverseRow : OpenClaim := { program := "yteckkamlaibjbaa", sum := "4c23fb1a1dc44c041297173f0b3b4021254f2def82c1441d13d1018fa6dd45f1", func := "vinculum/vinculumlaw13.PosmapInverse", spec := "posmapInverse", unfollowed := true, recurses := true, loops := true, apart := false }
def PosmapInverseSaid : Prop := posmapInverseRow.holds Try.pinned (OpenSpec.ofChange posmapInverseSpec)

/-- ITS FALSE NEIGHBOUR: 'it returns false'. Refute it at one input. -/
def posmapInverseWrong : ChangeSpec := { name := "posmapInverse", fn := fun _ => fun
  | [d1, d2, d3] => { results := [.lit (.bool false)], args := [d1, d2, d3] }
  | _ => none }
def PosmapInverseWrongFalsely : Prop := posmapInverseRow.holds Try.pinned (OpenSpec.ofChange posmapInverseWrong)

/-- 'vinculumlaw13.PosmapMapAll': WHATEVER THE INPUT: true; the input reads as it did. -/
def posmapMapAllSpec : ChangeSpec := { name := "posmapMapAll", fn := fun _ => fun
  | [d1, d2, d3] => { results := [.lit (.bool true)], args := [d1, d2, d3] }
  | _ => none }
def posmapMapAllRow : OpenClaim := { program := "yteckkamlaibjbaa", sum := "4c23fb1a1dc44c041297173f0b3b4021254f2def82c1441d13d1018fa6dd45f1", func := "vinculum/vinculumlaw13.PosmapMapAll", spec := "posmapMapAll", recurses := true, loops := true, apart := false }
def PosmapMapAllSaid : Prop := posmapMapAllRow.holds Try.pinned (OpenSpec.ofChange posmapMapAllSpec)

/-- ITS FALSE NEIGHBOUR: 'it returns false'. Refute it at one input. -/
def posmapMapAllWrong : ChangeSpec := { name := "posmapMapAll", fn := fun _ => fun
  | [d1, d2, d3] => { results := [.lit (.bool false)], args := [d1, d2, d3] }
  | _ => none }
def PosmapMapAllWrongFalsely : Prop := posmapMapAllRow.holds Try.pinned (OpenSpec.ofChange posmapMapAllWrong)

/-- 'vinculumlaw13.PosmapScript': WHATEVER THE INPUT: true; the input reads as it did. -/
def posmapScriptSpec : ChangeSpec := { name := "posmapScript", fn := fun _ => fun
  | [d1, d2, d3] => { results := [.lit (.bool true)], args := [d1, d2, d3] }
  | _ => none }
def posmapScriptRow : OpenClaim := { program := "yteckkamlaibjbaa", sum := "4c23fb1a1dc44c041297173f0b3b4021254f2def82c1441d13d1018fa6dd45f1", func := "vinculum/vinculumlaw13.PosmapScript", spec := "posmapScript", recurses := true, loops := true, apart := false }
def PosmapScriptSaid : Prop := posmapScriptRow.holds Try.pinned (OpenSpec.ofChange posmapScriptSpec)

/-- ITS FALSE NEIGHBOUR: 'it returns false'. Refute it at one input. -/
def posmapScriptWrong : ChangeSpec := { name := "posmapScript", fn := fun _ => fun
  | [d1, d2, d3] => { results := [.lit (.bool false)], args := [d1, d2, d3] }
  | _ => none }
def PosmapScriptWrongFalsely : Prop := posmapScriptRow.holds Try.pinned (OpenSpec.ofChange posmapScriptWrong)

/-- 'vinculumlaw13.PosmapMap': WHATEVER THE INPUT: true; the input reads as it did. -/
def posmapMapSpec : ChangeSpec := { name := "posmapMap", fn := fun _ => fun
  | [d1, d2, d3] => { results := [.lit (.bool true)], args := [d1, d2, d3] }
  | _ => none }
def posmapMapRow : OpenClaim := { program := "yteckkamlaibjbaa", sum := "4c23fb1a1dc44c041297173f0b3b4021254f2def82c1441d13d1018fa6dd45f1", func := "vinculum/vinculumlaw13.PosmapMap", spec := "posmapMap", recurses := true, loops := true, apart := false }
def PosmapMapSaid : Prop := posmapMapRow.holds Try.pinned (OpenSpec.ofChange posmapMapSpec)

/-- ITS FALSE NEIGHBOUR: 'it returns false'. Refute it at one input. -/
def posmapMapWrong : ChangeSpec := { name := "posmapMap", fn := fun _ => fun
  | [d1, d2, d3] => { results := [.lit (.bool false)], args := [d1, d2, d3] }
  | _ => none }
def PosmapMapWrongFalsely : Prop := posmapMapRow.holds Try.pinned (OpenSpec.ofChange posmapMapWrong)

/-- 'vinculumlaw13.PosmapContent': WHATEVER THE INPUT: true; the input reads as it did. -/
def posmapContentSpec : ChangeSpec := { name := "posmapContent", fn := fun _ => fun
  | [d1, d2, d3] => { results := [.lit (.bool true)], args := [d1, d2, d3] }
  | _ => none }
def posmapContentRow : OpenClaim := { program := "yteckkamlaibjbaa", sum := "4c23fb1a1dc44c041297173f0b3b4021254f2def82c1441d13d1018fa6dd45f1", func := "vinculum/vinculumlaw13.PosmapContent", spec := "posmapContent", recurses := true, loops := true, apart := false }
def PosmapContentSaid : Prop := posmapContentRow.holds Try.pinned (OpenSpec.ofChange posmapContentSpec)

/-- ITS FALSE NEIGHBOUR: 'it returns false'. Refute it at one input. -/
def posmapContentWrong : ChangeSpec := { name := "posmapContent", fn := fun _ => fun
  | [d1, d2, d3] => { results := [.lit (.bool false)], args := [d1, d2, d3] }
  | _ => none }
def PosmapContentWrongFalsely : Prop := posmapContentRow.holds Try.pinned (OpenSpec.ofChange posmapContentWrong)

/- THE SECOND FORM. 'bulk': how many values and letters a reading holds, each counted each time it is reached (what is shared counts as often as it is met; a slice's spare places count too). A statement '..UptoSaid' is the law's where the arguments, and the package variables that the reading takes, are together of bulk at most 1048576: NARROWER than '..Said'. Prove '..Said' where nothing that the law and all that it calls make is longer than what came in: it says more and counts as full. Else prove '..UptoSaid'. A law counts once. -/
mutual
def uptoBulk {H : Type} : DataW H → Nat
  | .lit (.string bytes) => bytes.length + 1
  | .lit _ => 1
  | .nil => 1
  | .ptr d => uptoBulk d + 1
  | .slice elems spare => uptoBulkAll elems + uptoBulkAll spare + 1
  | .agg parts => uptoBulkAll parts + 1
  | .iface _ d => uptoBulk d + 1
  | .map entries => uptoBulkEntries entries + 1
  | .held _ => 1
def uptoBulkAll {H : Type} : List (DataW H) → Nat
  | [] => 0
  | d :: r => uptoBulk d + uptoBulkAll r
def uptoBulkEntries {H : Type} : List (Lit × DataW H) → Nat
  | [] => 0
  | x :: r => uptoBulkEntry x + uptoBulkEntries r
def uptoBulkEntry {H : Type} : Lit × DataW H → Nat
  | (.string bytes, d) => bytes.length + uptoBulk d + 1
  | (_, d) => uptoBulk d + 1
 end
def uptoSmall : (H : Type) → List (DataW H) → Bool := fun _ ds => decide (uptoBulkAll ds ≤ 1048576)
def OpenSpec.upto (s : _root_.Go.ChangeSpec) : _root_.Go.OpenSpec := { _root_.Go.OpenSpec.ofChange s with cond := some uptoSmall }

/-- 'vinculumlaw13.PosmapValid', WHERE WHAT IT READS IS OF BULK AT MOST 1048576: true; the input reads as it did. -/
def posmapValidUptoRow : OpenClaim := { program := "yteckkamlaibjbaa", sum := "4c23fb1a1dc44c041297173f0b3b4021254f2def82c1441d13d1018fa6dd45f1", func := "vinculum/vinculumlaw13.PosmapValid", spec := "posmapValid", recurses := true, loops := true, apart := false, narrowed := true }
def PosmapValidUptoSaid : Prop := posmapValidUptoRow.holds Try.pinned (OpenSpec.upto posmapValidSpec)

/-- 'vinculumlaw13.PosmapInverse', WHERE WHAT IT READS IS OF BULK AT MOST 1048576: true; the input reads as it did. -/
def posmapInverseUptoRow : OpenClaim := { program := "yteckkamlaibjbaa", sum := "4c23fb1a1dc44c041297173f0b3b4021254f2def82c1441d13d1018fa6dd45f1", func := "vinculum/vinculumlaw13.PosmapInverse", spec := "posmapInverse", unfollowed := true, recurses := true, loops := true, apart := false, narrowed := true }
def PosmapInverseUptoSaid : Prop := posmapInverseUptoRow.holds Try.pinned (OpenSpec.upto posmapInverseSpec)

/-- 'vinculumlaw13.PosmapMapAll', WHERE WHAT IT READS IS OF BULK AT MOST 1048576: true; the input reads as it did. -/
def posmapMapAllUptoRow : OpenClaim := { program := "yteckkamlaibjbaa", sum := "4c23fb1a1dc44c041297173f0b3b4021254f2def82c1441d13d1018fa6dd45f1", func := "vinculum/vinculumlaw13.PosmapMapAll", spec := "posmapMapAll", recurses := true, loops := true, apart := false, narrowed := true }
def PosmapMapAllUptoSaid : Prop := posmapMapAllUptoRow.holds Try.pinned (OpenSpec.upto posmapMapAllSpec)

/-- 'vinculumlaw13.PosmapScript', WHERE WHAT IT READS IS OF BULK AT MOST 1048576: true; the input reads as it did. -/
def posmapScriptUptoRow : OpenClaim := { program := "yteckkamlaibjbaa", sum := "4c23fb1a1dc44c041297173f0b3b4021254f2def82c1441d13d1018fa6dd45f1", func := "vinculum/vinculumlaw13.PosmapScript", spec := "posmapScript", recurses := true, loops := true, apart := false, narrowed := true }
def PosmapScriptUptoSaid : Prop := posmapScriptUptoRow.holds Try.pinned (OpenSpec.upto posmapScriptSpec)

/-- 'vinculumlaw13.PosmapMap', WHERE WHAT IT READS IS OF BULK AT MOST 1048576: true; the input reads as it did. -/
def posmapMapUptoRow : OpenClaim := { program := "yteckkamlaibjbaa", sum := "4c23fb1a1dc44c041297173f0b3b4021254f2def82c1441d13d1018fa6dd45f1", func := "vinculum/vinculumlaw13.PosmapMap", spec := "posmapMap", recurses := true, loops := true, apart := false, narrowed := true }
def PosmapMapUptoSaid : Prop := posmapMapUptoRow.holds Try.pinned (OpenSpec.upto posmapMapSpec)

/-- 'vinculumlaw13.PosmapContent', WHERE WHAT IT READS IS OF BULK AT MOST 1048576: true; the input reads as it did. -/
def posmapContentUptoRow : OpenClaim := { program := "yteckkamlaibjbaa", sum := "4c23fb1a1dc44c041297173f0b3b4021254f2def82c1441d13d1018fa6dd45f1", func := "vinculum/vinculumlaw13.PosmapContent", spec := "posmapContent", recurses := true, loops := true, apart := false, narrowed := true }
def PosmapContentUptoSaid : Prop := posmapContentUptoRow.holds Try.pinned (OpenSpec.upto posmapContentSpec)

end Rows
end Go.Proofs.Yteckkamlaibjbaa
