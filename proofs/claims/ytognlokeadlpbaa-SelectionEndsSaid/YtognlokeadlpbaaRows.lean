/-
  NARROWER THAN 'FOR EVERY INPUT', by the rows' own cells (each row's printed sentence says how): SelectionBetween: loops · SelectionItems: loops · PositionValid: loops · SelectionEnds: loops · PositionAll: loops · PositionNext: loops · PositionComplete: loops · PositionIndex: loops · PositionNeighbours: loops.
  DERIVED. THE GIVEN ROWS OF THIS SEAT. 11 by the template 'for every input the law returns true; each argument reads behind the call as it read before'; 0 by the template 'total and deterministic' (their statements: YtognlokeadlpbaaTotals.lean).
  GIVEN WITH THE SEED: the statements are not yours to turn. If you find one false, say at which input.
  Laid BY PROGRAM, IN A SANDBOX (cutbox-rows.mjs): the forced cells as the released guide's own fill.sh prints them over the translation 2a823e5547d00e9e… (all of the seat's roots in one cut). By AI agents, Wed Nov 11 2026. No macro, syntax, notation, axiom, sorry.
-/
import Derived.Test.YtognlokeadlpbaaChecked
import GoSem.Claim
import GoSem.ClaimJoined
import GoSem.ClaimMapViews
import Derived.JoinedTies
import Derived.KernelRfl
namespace Go.Proofs.Ytognlokeadlpbaa
/- THE CELL 'sum', in the pinned program and in every row, IS THE sha256 OF THE DUMP (.gsa) THAT YtognlokeadlpbaaProg.lean LOADS. Nothing in Lean hashes anything: it is a label: what it is worth is what the hold of that sum in a sandbox is worth. -/
noncomputable def Try.pinned : Pinned := { name := "ytognlokeadlpbaa", sum := "2a823e5547d00e9e5f54bb20ee5e33f75001c0a8a1f6c341860d1740e401f4d4", checked := Try.checked }
namespace Rows
def none {H : Type} : Left H := { results := [], args := [] }

/-- 'vinculumlaw11.SelectionBetween': WHATEVER THE INPUT: true; the input reads as it did. -/
def selectionBetweenSpec : ChangeSpec := { name := "selectionBetween", fn := fun _ => fun
  | [d1, d2, d3] => { results := [.lit (.bool true)], args := [d1, d2, d3] }
  | _ => none }
def selectionBetweenRow : OpenClaim := { program := "ytognlokeadlpbaa", sum := "2a823e5547d00e9e5f54bb20ee5e33f75001c0a8a1f6c341860d1740e401f4d4", func := "vinculum/vinculumlaw11.SelectionBetween", spec := "selectionBetween", inPlace := ["internal/bytealg.IndexByteString", "internal/bytealg.IndexString"], unfollowed := true, recurses := true, named := ["internal/bytealg.MaxLen"], loops := true, apart := false }
def SelectionBetweenSaid : Prop := selectionBetweenRow.holds Try.pinned (OpenSpec.ofChange selectionBetweenSpec)

/-- ITS FALSE NEIGHBOUR: 'it returns false'. Refute it at one input. -/
def selectionBetweenWrong : ChangeSpec := { name := "selectionBetween", fn := fun _ => fun
  | [d1, d2, d3] => { results := [.lit (.bool false)], args := [d1, d2, d3] }
  | _ => none }
def SelectionBetweenWrongFalsely : Prop := selectionBetweenRow.holds Try.pinned (OpenSpec.ofChange selectionBetweenWrong)

/-- 'vinculumlaw11.SelectionContains': WHATEVER THE INPUT: true; the input reads as it did. -/
def selectionContainsSpec : ChangeSpec := { name := "selectionContains", fn := fun _ => fun
  | [d1, d2] => { results := [.lit (.bool true)], args := [d1, d2] }
  | _ => none }
def selectionContainsRow : OpenClaim := { program := "ytognlokeadlpbaa", sum := "2a823e5547d00e9e5f54bb20ee5e33f75001c0a8a1f6c341860d1740e401f4d4", func := "vinculum/vinculumlaw11.SelectionContains", spec := "selectionContains", inPlace := ["internal/bytealg.IndexByteString", "internal/bytealg.IndexString"], unfollowed := true, recurses := true, named := ["internal/bytealg.MaxLen"], apart := false }
def SelectionContainsSaid : Prop := selectionContainsRow.holds Try.pinned (OpenSpec.ofChange selectionContainsSpec)

/-- ITS FALSE NEIGHBOUR: 'it returns false'. Refute it at one input. -/
def selectionContainsWrong : ChangeSpec := { name := "selectionContains", fn := fun _ => fun
  | [d1, d2] => { results := [.lit (.bool false)], args := [d1, d2] }
  | _ => none }
def SelectionContainsWrongFalsely : Prop := selectionContainsRow.holds Try.pinned (OpenSpec.ofChange selectionContainsWrong)

/-- 'vinculumlaw11.SelectionItems': WHATEVER THE INPUT: true; the input reads as it did. -/
def selectionItemsSpec : ChangeSpec := { name := "selectionItems", fn := fun _ => fun
  | [d1, d2] => { results := [.lit (.bool true)], args := [d1, d2] }
  | _ => none }
def selectionItemsRow : OpenClaim := { program := "ytognlokeadlpbaa", sum := "2a823e5547d00e9e5f54bb20ee5e33f75001c0a8a1f6c341860d1740e401f4d4", func := "vinculum/vinculumlaw11.SelectionItems", spec := "selectionItems", inPlace := ["internal/bytealg.IndexByteString", "internal/bytealg.IndexString"], unfollowed := true, recurses := true, named := ["internal/bytealg.MaxLen"], loops := true, apart := false }
def SelectionItemsSaid : Prop := selectionItemsRow.holds Try.pinned (OpenSpec.ofChange selectionItemsSpec)

/-- ITS FALSE NEIGHBOUR: 'it returns false'. Refute it at one input. -/
def selectionItemsWrong : ChangeSpec := { name := "selectionItems", fn := fun _ => fun
  | [d1, d2] => { results := [.lit (.bool false)], args := [d1, d2] }
  | _ => none }
def SelectionItemsWrongFalsely : Prop := selectionItemsRow.holds Try.pinned (OpenSpec.ofChange selectionItemsWrong)

/-- 'vinculumlaw10.PositionOrder': WHATEVER THE INPUT: true; the input reads as it did. -/
def positionOrderSpec : ChangeSpec := { name := "positionOrder", fn := fun _ => fun
  | [d1, d2, d3] => { results := [.lit (.bool true)], args := [d1, d2, d3] }
  | _ => none }
def positionOrderRow : OpenClaim := { program := "ytognlokeadlpbaa", sum := "2a823e5547d00e9e5f54bb20ee5e33f75001c0a8a1f6c341860d1740e401f4d4", func := "vinculum/vinculumlaw10.PositionOrder", spec := "positionOrder", inPlace := ["internal/bytealg.IndexByteString", "internal/bytealg.IndexString"], unfollowed := true, recurses := true, named := ["internal/bytealg.MaxLen"], apart := false }
def PositionOrderSaid : Prop := positionOrderRow.holds Try.pinned (OpenSpec.ofChange positionOrderSpec)

/-- ITS FALSE NEIGHBOUR: 'it returns false'. Refute it at one input. -/
def positionOrderWrong : ChangeSpec := { name := "positionOrder", fn := fun _ => fun
  | [d1, d2, d3] => { results := [.lit (.bool false)], args := [d1, d2, d3] }
  | _ => none }
def PositionOrderWrongFalsely : Prop := positionOrderRow.holds Try.pinned (OpenSpec.ofChange positionOrderWrong)

/-- 'vinculumlaw10.PositionValid': WHATEVER THE INPUT: true; the input reads as it did. -/
def positionValidSpec : ChangeSpec := { name := "positionValid", fn := fun _ => fun
  | [d1, d2] => { results := [.lit (.bool true)], args := [d1, d2] }
  | _ => none }
def positionValidRow : OpenClaim := { program := "ytognlokeadlpbaa", sum := "2a823e5547d00e9e5f54bb20ee5e33f75001c0a8a1f6c341860d1740e401f4d4", func := "vinculum/vinculumlaw10.PositionValid", spec := "positionValid", inPlace := ["internal/bytealg.IndexByteString", "internal/bytealg.IndexString"], unfollowed := true, recurses := true, named := ["internal/bytealg.MaxLen"], loops := true, apart := false }
def PositionValidSaid : Prop := positionValidRow.holds Try.pinned (OpenSpec.ofChange positionValidSpec)

/-- ITS FALSE NEIGHBOUR: 'it returns false'. Refute it at one input. -/
def positionValidWrong : ChangeSpec := { name := "positionValid", fn := fun _ => fun
  | [d1, d2] => { results := [.lit (.bool false)], args := [d1, d2] }
  | _ => none }
def PositionValidWrongFalsely : Prop := positionValidRow.holds Try.pinned (OpenSpec.ofChange positionValidWrong)

/-- 'vinculumlaw11.SelectionEnds': WHATEVER THE INPUT: true; the input reads as it did. -/
def selectionEndsSpec : ChangeSpec := { name := "selectionEnds", fn := fun _ => fun
  | [d1, d2] => { results := [.lit (.bool true)], args := [d1, d2] }
  | _ => none }
def selectionEndsRow : OpenClaim := { program := "ytognlokeadlpbaa", sum := "2a823e5547d00e9e5f54bb20ee5e33f75001c0a8a1f6c341860d1740e401f4d4", func := "vinculum/vinculumlaw11.SelectionEnds", spec := "selectionEnds", inPlace := ["internal/bytealg.IndexByteString", "internal/bytealg.IndexString"], unfollowed := true, recurses := true, named := ["internal/bytealg.MaxLen"], loops := true, apart := false }
def SelectionEndsSaid : Prop := selectionEndsRow.holds Try.pinned (OpenSpec.ofChange selectionEndsSpec)

/-- ITS FALSE NEIGHBOUR: 'it returns false'. Refute it at one input. -/
def selectionEndsWrong : ChangeSpec := { name := "selectionEnds", fn := fun _ => fun
  | [d1, d2] => { results := [.lit (.bool false)], args := [d1, d2] }
  | _ => none }
def SelectionEndsWrongFalsely : Prop := selectionEndsRow.holds Try.pinned (OpenSpec.ofChange selectionEndsWrong)

/-- 'vinculumlaw10.PositionAll': WHATEVER THE INPUT: true; the input reads as it did. -/
def positionAllSpec : ChangeSpec := { name := "positionAll", fn := fun _ => fun
  | [d] => { results := [.lit (.bool true)], args := [d] }
  | _ => none }
def positionAllRow : OpenClaim := { program := "ytognlokeadlpbaa", sum := "2a823e5547d00e9e5f54bb20ee5e33f75001c0a8a1f6c341860d1740e401f4d4", func := "vinculum/vinculumlaw10.PositionAll", spec := "positionAll", inPlace := ["internal/bytealg.IndexByteString", "internal/bytealg.IndexString"], unfollowed := true, recurses := true, named := ["internal/bytealg.MaxLen"], loops := true, apart := false }
def PositionAllSaid : Prop := positionAllRow.holds Try.pinned (OpenSpec.ofChange positionAllSpec)

/-- ITS FALSE NEIGHBOUR: 'it returns false'. Refute it at one input. -/
def positionAllWrong : ChangeSpec := { name := "positionAll", fn := fun _ => fun
  | [d] => { results := [.lit (.bool false)], args := [d] }
  | _ => none }
def PositionAllWrongFalsely : Prop := positionAllRow.holds Try.pinned (OpenSpec.ofChange positionAllWrong)

/-- 'vinculumlaw10.PositionNext': WHATEVER THE INPUT: true; the input reads as it did. -/
def positionNextSpec : ChangeSpec := { name := "positionNext", fn := fun _ => fun
  | [d1, d2] => { results := [.lit (.bool true)], args := [d1, d2] }
  | _ => none }
def positionNextRow : OpenClaim := { program := "ytognlokeadlpbaa", sum := "2a823e5547d00e9e5f54bb20ee5e33f75001c0a8a1f6c341860d1740e401f4d4", func := "vinculum/vinculumlaw10.PositionNext", spec := "positionNext", inPlace := ["internal/bytealg.IndexByteString", "internal/bytealg.IndexString"], unfollowed := true, recurses := true, named := ["internal/bytealg.MaxLen"], loops := true, apart := false }
def PositionNextSaid : Prop := positionNextRow.holds Try.pinned (OpenSpec.ofChange positionNextSpec)

/-- ITS FALSE NEIGHBOUR: 'it returns false'. Refute it at one input. -/
def positionNextWrong : ChangeSpec := { name := "positionNext", fn := fun _ => fun
  | [d1, d2] => { results := [.lit (.bool false)], args := [d1, d2] }
  | _ => none }
def PositionNextWrongFalsely : Prop := positionNextRow.holds Try.pinned (OpenSpec.ofChange positionNextWrong)

/-- 'vinculumlaw10.PositionComplete': WHATEVER THE INPUT: true; the input reads as it did. -/
def positionCompleteSpec : ChangeSpec := { name := "positionComplete", fn := fun _ => fun
  | [d] => { results := [.lit (.bool true)], args := [d] }
  | _ => none }
def positionCompleteRow : OpenClaim := { program := "ytognlokeadlpbaa", sum := "2a823e5547d00e9e5f54bb20ee5e33f75001c0a8a1f6c341860d1740e401f4d4", func := "vinculum/vinculumlaw10.PositionComplete", spec := "positionComplete", inPlace := ["internal/bytealg.IndexByteString", "internal/bytealg.IndexString"], unfollowed := true, recurses := true, named := ["internal/bytealg.MaxLen"], loops := true, apart := false }
def PositionCompleteSaid : Prop := positionCompleteRow.holds Try.pinned (OpenSpec.ofChange positionCompleteSpec)

/-- ITS FALSE NEIGHBOUR: 'it returns false'. Refute it at one input. -/
def positionCompleteWrong : ChangeSpec := { name := "positionComplete", fn := fun _ => fun
  | [d] => { results := [.lit (.bool false)], args := [d] }
  | _ => none }
def PositionCompleteWrongFalsely : Prop := positionCompleteRow.holds Try.pinned (OpenSpec.ofChange positionCompleteWrong)

/-- 'vinculumlaw10.PositionIndex': WHATEVER THE INPUT: true; the input reads as it did. -/
def positionIndexSpec : ChangeSpec := { name := "positionIndex", fn := fun _ => fun
  | [d1, d2, d3] => { results := [.lit (.bool true)], args := [d1, d2, d3] }
  | _ => none }
def positionIndexRow : OpenClaim := { program := "ytognlokeadlpbaa", sum := "2a823e5547d00e9e5f54bb20ee5e33f75001c0a8a1f6c341860d1740e401f4d4", func := "vinculum/vinculumlaw10.PositionIndex", spec := "positionIndex", inPlace := ["internal/bytealg.IndexByteString", "internal/bytealg.IndexString"], unfollowed := true, recurses := true, named := ["internal/bytealg.MaxLen"], loops := true, apart := false }
def PositionIndexSaid : Prop := positionIndexRow.holds Try.pinned (OpenSpec.ofChange positionIndexSpec)

/-- ITS FALSE NEIGHBOUR: 'it returns false'. Refute it at one input. -/
def positionIndexWrong : ChangeSpec := { name := "positionIndex", fn := fun _ => fun
  | [d1, d2, d3] => { results := [.lit (.bool false)], args := [d1, d2, d3] }
  | _ => none }
def PositionIndexWrongFalsely : Prop := positionIndexRow.holds Try.pinned (OpenSpec.ofChange positionIndexWrong)

/-- 'vinculumlaw10.PositionNeighbours': WHATEVER THE INPUT: true; the input reads as it did. -/
def positionNeighboursSpec : ChangeSpec := { name := "positionNeighbours", fn := fun _ => fun
  | [d1, d2] => { results := [.lit (.bool true)], args := [d1, d2] }
  | _ => none }
def positionNeighboursRow : OpenClaim := { program := "ytognlokeadlpbaa", sum := "2a823e5547d00e9e5f54bb20ee5e33f75001c0a8a1f6c341860d1740e401f4d4", func := "vinculum/vinculumlaw10.PositionNeighbours", spec := "positionNeighbours", inPlace := ["internal/bytealg.IndexByteString", "internal/bytealg.IndexString"], unfollowed := true, recurses := true, named := ["internal/bytealg.MaxLen"], loops := true, apart := false }
def PositionNeighboursSaid : Prop := positionNeighboursRow.holds Try.pinned (OpenSpec.ofChange positionNeighboursSpec)

/-- ITS FALSE NEIGHBOUR: 'it returns false'. Refute it at one input. -/
def positionNeighboursWrong : ChangeSpec := { name := "positionNeighbours", fn := fun _ => fun
  | [d1, d2] => { results := [.lit (.bool false)], args := [d1, d2] }
  | _ => none }
def PositionNeighboursWrongFalsely : Prop := positionNeighboursRow.holds Try.pinned (OpenSpec.ofChange positionNeighboursWrong)

/- THE SECOND FORM. 'bulk': how many values and letters a reading holds, each counted each time it is reached (what is shared counts as often as it is met; a slice's spare places count too). A statement '..UptoSaid' is the law's where the arguments, and the package variables that the reading takes, are together of bulk at most 1048576: NARROWER than '..Said'. Prove '..Said' where nothing that the law and all that it calls make is longer than what came in: it says more and counts as full. Else prove '..UptoSaid'. A law counts once. -/
mutual
def uptoBulk {H : Type} : DataW H → Nat
  | .lit (.string bytes) => bytes.length + 1
  | .lit _ => 1
  | .nil => 1
  | .ptr d => uptoBulk d + 1
  | .slice elems spare => uptoBulkAll elems + uptoBulkAll spare + 1
  | .agg parts => uptoBulkAll parts + 1
  | .iface _ d => uptoBulk d + 1
  | .map entries => uptoBulkEntries entries + 1
  | .held _ => 1
def uptoBulkAll {H : Type} : List (DataW H) → Nat
  | [] => 0
  | d :: r => uptoBulk d + uptoBulkAll r
def uptoBulkEntries {H : Type} : List (Lit × DataW H) → Nat
  | [] => 0
  | x :: r => uptoBulkEntry x + uptoBulkEntries r
def uptoBulkEntry {H : Type} : Lit × DataW H → Nat
  | (.string bytes, d) => bytes.length + uptoBulk d + 1
  | (_, d) => uptoBulk d + 1
 end
def uptoSmall : (H : Type) → List (DataW H) → Bool := fun _ ds => decide (uptoBulkAll ds ≤ 1048576)
def OpenSpec.upto (s : _root_.Go.ChangeSpec) : _root_.Go.OpenSpec := { _root_.Go.OpenSpec.ofChange s with cond := some uptoSmall }

/-- 'vinculumlaw11.SelectionBetween', WHERE WHAT IT READS IS OF BULK AT MOST 1048576: true; the input reads as it did. -/
def selectionBetweenUptoRow : OpenClaim := { program := "ytognlokeadlpbaa", sum := "2a823e5547d00e9e5f54bb20ee5e33f75001c0a8a1f6c341860d1740e401f4d4", func := "vinculum/vinculumlaw11.SelectionBetween", spec := "selectionBetween", inPlace := ["internal/bytealg.IndexByteString", "internal/bytealg.IndexString"], unfollowed := true, recurses := true, named := ["internal/bytealg.MaxLen"], loops := true, apart := false, narrowed := true }
def SelectionBetweenUptoSaid : Prop := selectionBetweenUptoRow.holds Try.pinned (OpenSpec.upto selectionBetweenSpec)

/-- 'vinculumlaw11.SelectionContains', WHERE WHAT IT READS IS OF BULK AT MOST 1048576: true; the input reads as it did. -/
def selectionContainsUptoRow : OpenClaim := { program := "ytognlokeadlpbaa", sum := "2a823e5547d00e9e5f54bb20ee5e33f75001c0a8a1f6c341860d1740e401f4d4", func := "vinculum/vinculumlaw11.SelectionContains", spec := "selectionContains", inPlace := ["internal/bytealg.IndexByteString", "internal/bytealg.IndexString"], unfollowed := true, recurses := true, named := ["internal/bytealg.MaxLen"], apart := false, narrowed := true }
def SelectionContainsUptoSaid : Prop := selectionContainsUptoRow.holds Try.pinned (OpenSpec.upto selectionContainsSpec)

/-- 'vinculumlaw11.SelectionItems', WHERE WHAT IT READS IS OF BULK AT MOST 1048576: true; the input reads as it did. -/
def selectionItemsUptoRow : OpenClaim := { program := "ytognlokeadlpbaa", sum := "2a823e5547d00e9e5f54bb20ee5e33f75001c0a8a1f6c341860d1740e401f4d4", func := "vinculum/vinculumlaw11.SelectionItems", spec := "selectionItems", inPlace := ["internal/bytealg.IndexByteString", "internal/bytealg.IndexString"], unfollowed := true, recurses := true, named := ["internal/bytealg.MaxLen"], loops := true, apart := false, narrowed := true }
def SelectionItemsUptoSaid : Prop := selectionItemsUptoRow.holds Try.pinned (OpenSpec.upto selectionItemsSpec)

/-- 'vinculumlaw10.PositionOrder', WHERE WHAT IT READS IS OF BULK AT MOST 1048576: true; the input reads as it did. -/
def positionOrderUptoRow : OpenClaim := { program := "ytognlokeadlpbaa", sum := "2a823e5547d00e9e5f54bb20ee5e33f75001c0a8a1f6c341860d1740e401f4d4", func := "vinculum/vinculumlaw10.PositionOrder", spec := "positionOrder", inPlace := ["internal/bytealg.IndexByteString", "internal/bytealg.IndexString"], unfollowed := true, recurses := true, named := ["internal/bytealg.MaxLen"], apart := false, narrowed := true }
def PositionOrderUptoSaid : Prop := positionOrderUptoRow.holds Try.pinned (OpenSpec.upto positionOrderSpec)

/-- 'vinculumlaw10.PositionValid', WHERE WHAT IT READS IS OF BULK AT MOST 1048576: true; the input reads as it did. -/
def positionValidUptoRow : OpenClaim := { program := "ytognlokeadlpbaa", sum := "2a823e5547d00e9e5f54bb20ee5e33f75001c0a8a1f6c341860d1740e401f4d4", func := "vinculum/vinculumlaw10.PositionValid", spec := "positionValid", inPlace := ["internal/bytealg.IndexByteString", "internal/bytealg.IndexString"], unfollowed := true, recurses := true, named := ["internal/bytealg.MaxLen"], loops := true, apart := false, narrowed := true }
def PositionValidUptoSaid : Prop := positionValidUptoRow.holds Try.pinned (OpenSpec.upto positionValidSpec)

/-- 'vinculumlaw11.SelectionEnds', WHERE WHAT IT READS IS OF BULK AT MOST 1048576: true; the input reads as it did. -/
def selectionEndsUptoRow : OpenClaim := { program := "ytognlokeadlpbaa", sum := "2a823e5547d00e9e5f54bb20ee5e33f75001c0a8a1f6c341860d1740e401f4d4", func := "vinculum/vinculumlaw11.SelectionEnds", spec := "selectionEnds", inPlace := ["internal/bytealg.IndexByteString", "internal/bytealg.IndexString"], unfollowed := true, recurses := true, named := ["internal/bytealg.MaxLen"], loops := true, apart := false, narrowed := true }
def SelectionEndsUptoSaid : Prop := selectionEndsUptoRow.holds Try.pinned (OpenSpec.upto selectionEndsSpec)

/-- 'vinculumlaw10.PositionAll', WHERE WHAT IT READS IS OF BULK AT MOST 1048576: true; the input reads as it did. -/
def positionAllUptoRow : OpenClaim := { program := "ytognlokeadlpbaa", sum := "2a823e5547d00e9e5f54bb20ee5e33f75001c0a8a1f6c341860d1740e401f4d4", func := "vinculum/vinculumlaw10.PositionAll", spec := "positionAll", inPlace := ["internal/bytealg.IndexByteString", "internal/bytealg.IndexString"], unfollowed := true, recurses := true, named := ["internal/bytealg.MaxLen"], loops := true, apart := false, narrowed := true }
def PositionAllUptoSaid : Prop := positionAllUptoRow.holds Try.pinned (OpenSpec.upto positionAllSpec)

/-- 'vinculumlaw10.PositionNext', WHERE WHAT IT READS IS OF BULK AT MOST 1048576: true; the input reads as it did. -/
def positionNextUptoRow : OpenClaim := { program := "ytognlokeadlpbaa", sum := "2a823e5547d00e9e5f54bb20ee5e33f75001c0a8a1f6c341860d1740e401f4d4", func := "vinculum/vinculumlaw10.PositionNext", spec := "positionNext", inPlace := ["internal/bytealg.IndexByteString", "internal/bytealg.IndexString"], unfollowed := true, recurses := true, named := ["internal/bytealg.MaxLen"], loops := true, apart := false, narrowed := true }
def PositionNextUptoSaid : Prop := positionNextUptoRow.holds Try.pinned (OpenSpec.upto positionNextSpec)

/-- 'vinculumlaw10.PositionComplete', WHERE WHAT IT READS IS OF BULK AT MOST 1048576: true; the input reads as it did. -/
def positionCompleteUptoRow : OpenClaim := { program := "ytognlokeadlpbaa", sum := "2a823e5547d00e9e5f54bb20ee5e33f75001c0a8a1f6c341860d1740e401f4d4", func := "vinculum/vinculumlaw10.PositionComplete", spec := "positionComplete", inPlace := ["internal/bytealg.IndexByteString", "internal/bytealg.IndexString"], unfollowed := true, recurses := true, named := ["internal/bytealg.MaxLen"], loops := true, apart := false, narrowed := true }
def PositionCompleteUptoSaid : Prop := positionCompleteUptoRow.holds Try.pinned (OpenSpec.upto positionCompleteSpec)

/-- 'vinculumlaw10.PositionIndex', WHERE WHAT IT READS IS OF BULK AT MOST 1048576: true; the input reads as it did. -/
def positionIndexUptoRow : OpenClaim := { program := "ytognlokeadlpbaa", sum := "2a823e5547d00e9e5f54bb20ee5e33f75001c0a8a1f6c341860d1740e401f4d4", func := "vinculum/vinculumlaw10.PositionIndex", spec := "positionIndex", inPlace := ["internal/bytealg.IndexByteString", "internal/bytealg.IndexString"], unfollowed := true, recurses := true, named := ["internal/bytealg.MaxLen"], loops := true, apart := false, narrowed := true }
def PositionIndexUptoSaid : Prop := positionIndexUptoRow.holds Try.pinned (OpenSpec.upto positionIndexSpec)

/-- 'vinculumlaw10.PositionNeighbours', WHERE WHAT IT READS IS OF BULK AT MOST 1048576: true; the input reads as it did. -/
def positionNeighboursUptoRow : OpenClaim := { program := "ytognlokeadlpbaa", sum := "2a823e5547d00e9e5f54bb20ee5e33f75001c0a8a1f6c341860d1740e401f4d4", func := "vinculum/vinculumlaw10.PositionNeighbours", spec := "positionNeighbours", inPlace := ["internal/bytealg.IndexByteString", "internal/bytealg.IndexString"], unfollowed := true, recurses := true, named := ["internal/bytealg.MaxLen"], loops := true, apart := false, narrowed := true }
def PositionNeighboursUptoSaid : Prop := positionNeighboursUptoRow.holds Try.pinned (OpenSpec.upto positionNeighboursSpec)

end Rows
end Go.Proofs.Ytognlokeadlpbaa
