/-
  NARROWER THAN 'FOR EVERY INPUT', by the rows' own cells (each row's printed sentence says how): ComposeErases: loops · ComposeReinsert: loops · ComposeWrapUnwrap: loops · ComposeInsert: loops · ComposeErase: loops · ComposeWrap: loops · ComposeAround: loops · ComposeSet: loops · ComposeRecords: loops.
  DERIVED. THE GIVEN ROWS OF THIS SEAT. 9 by the template 'for every input the law returns true; each argument reads behind the call as it read before'; 0 by the template 'total and deterministic' (their statements: YtbjcioknfjofkaaGreatTotals.lean).
  GIVEN WITH THE SEED: the statements are not yours to turn. If you find one false, say at which input.
  Laid BY PROGRAM, IN A SANDBOX (cutbox-rows.mjs): the forced cells as the released guide's own fill.sh prints them over the translation 6886e903008c1fe1… (all of the seat's roots in one cut). By AI agents, Wed Nov 11 2026. No macro, syntax, notation, axiom, sorry.
-/
import Derived.Test.YtbjcioknfjofkaaGreatChecked
import GoSem.Claim
import GoSem.ClaimJoined
import GoSem.ClaimMapViews
import Derived.JoinedTies
import Derived.KernelRfl
namespace Go.Proofs.YtbjcioknfjofkaaGreat
/- THE CELL 'sum', in the pinned program and in every row, IS THE sha256 OF THE DUMP (.gsa) THAT YtbjcioknfjofkaaGreatProg.lean LOADS. Nothing in Lean hashes anything: it is a label: what it is worth is what the hold of that sum in a sandbox is worth. -/
noncomputable def Tryz.pinned : Pinned := { name := "ytbjcioknfjofkaagreat", sum := "6886e903008c1fe14bebf0d944ee6ea48074b2e297835d74e3046670d8754acc", checked := Tryz.checked }
namespace Rows
def none {H : Type} : Left H := { results := [], args := [] }

/-- 'vinculumlaw14.ComposeErases': WHATEVER THE INPUT: true; the input reads as it did. -/
def composeErasesSpec : ChangeSpec := { name := "composeErases", fn := fun _ => fun
  | [d1, d2] => { results := [.lit (.bool true)], args := [d1, d2] }
  | _ => none }
def composeErasesRow : OpenClaim := { program := "ytbjcioknfjofkaagreat", sum := "6886e903008c1fe14bebf0d944ee6ea48074b2e297835d74e3046670d8754acc", func := "vinculum/vinculumlaw14.ComposeErases", spec := "composeErases", inPlace := ["internal/bytealg.IndexByteString", "internal/bytealg.IndexString"], unfollowed := true, recurses := true, named := ["internal/bytealg.MaxLen"], loops := true, apart := false }
def ComposeErasesSaid : Prop := composeErasesRow.holds Tryz.pinned (OpenSpec.ofChange composeErasesSpec)

/-- ITS FALSE NEIGHBOUR: 'it returns false'. Refute it at one input. -/
def composeErasesWrong : ChangeSpec := { name := "composeErases", fn := fun _ => fun
  | [d1, d2] => { results := [.lit (.bool false)], args := [d1, d2] }
  | _ => none }
def ComposeErasesWrongFalsely : Prop := composeErasesRow.holds Tryz.pinned (OpenSpec.ofChange composeErasesWrong)

/-- 'vinculumlaw14.ComposeReinsert': WHATEVER THE INPUT: true; the input reads as it did. -/
def composeReinsertSpec : ChangeSpec := { name := "composeReinsert", fn := fun _ => fun
  | [d1, d2] => { results := [.lit (.bool true)], args := [d1, d2] }
  | _ => none }
def composeReinsertRow : OpenClaim := { program := "ytbjcioknfjofkaagreat", sum := "6886e903008c1fe14bebf0d944ee6ea48074b2e297835d74e3046670d8754acc", func := "vinculum/vinculumlaw14.ComposeReinsert", spec := "composeReinsert", inPlace := ["internal/bytealg.IndexByteString", "internal/bytealg.IndexString"], unfollowed := true, recurses := true, named := ["internal/bytealg.MaxLen"], loops := true, apart := false }
def ComposeReinsertSaid : Prop := composeReinsertRow.holds Tryz.pinned (OpenSpec.ofChange composeReinsertSpec)

/-- ITS FALSE NEIGHBOUR: 'it returns false'. Refute it at one input. -/
def composeReinsertWrong : ChangeSpec := { name := "composeReinsert", fn := fun _ => fun
  | [d1, d2] => { results := [.lit (.bool false)], args := [d1, d2] }
  | _ => none }
def ComposeReinsertWrongFalsely : Prop := composeReinsertRow.holds Tryz.pinned (OpenSpec.ofChange composeReinsertWrong)

/-- 'vinculumlaw14.ComposeWrapUnwrap': WHATEVER THE INPUT: true; the input reads as it did. -/
def composeWrapUnwrapSpec : ChangeSpec := { name := "composeWrapUnwrap", fn := fun _ => fun
  | [d1, d2, d3] => { results := [.lit (.bool true)], args := [d1, d2, d3] }
  | _ => none }
def composeWrapUnwrapRow : OpenClaim := { program := "ytbjcioknfjofkaagreat", sum := "6886e903008c1fe14bebf0d944ee6ea48074b2e297835d74e3046670d8754acc", func := "vinculum/vinculumlaw14.ComposeWrapUnwrap", spec := "composeWrapUnwrap", inPlace := ["internal/bytealg.IndexByteString", "internal/bytealg.IndexString"], unfollowed := true, recurses := true, named := ["internal/bytealg.MaxLen"], loops := true, apart := false }
def ComposeWrapUnwrapSaid : Prop := composeWrapUnwrapRow.holds Tryz.pinned (OpenSpec.ofChange composeWrapUnwrapSpec)

/-- ITS FALSE NEIGHBOUR: 'it returns false'. Refute it at one input. -/
def composeWrapUnwrapWrong : ChangeSpec := { name := "composeWrapUnwrap", fn := fun _ => fun
  | [d1, d2, d3] => { results := [.lit (.bool false)], args := [d1, d2, d3] }
  | _ => none }
def ComposeWrapUnwrapWrongFalsely : Prop := composeWrapUnwrapRow.holds Tryz.pinned (OpenSpec.ofChange composeWrapUnwrapWrong)

/-- 'vinculumlaw14.ComposeInsert': WHATEVER THE INPUT: true; the input reads as it did. -/
def composeInsertSpec : ChangeSpec := { name := "composeInsert", fn := fun _ => fun
  | [d1, d2, d3] => { results := [.lit (.bool true)], args := [d1, d2, d3] }
  | _ => none }
def composeInsertRow : OpenClaim := { program := "ytbjcioknfjofkaagreat", sum := "6886e903008c1fe14bebf0d944ee6ea48074b2e297835d74e3046670d8754acc", func := "vinculum/vinculumlaw14.ComposeInsert", spec := "composeInsert", inPlace := ["internal/bytealg.IndexByteString", "internal/bytealg.IndexString"], unfollowed := true, recurses := true, named := ["internal/bytealg.MaxLen"], loops := true, apart := false }
def ComposeInsertSaid : Prop := composeInsertRow.holds Tryz.pinned (OpenSpec.ofChange composeInsertSpec)

/-- ITS FALSE NEIGHBOUR: 'it returns false'. Refute it at one input. -/
def composeInsertWrong : ChangeSpec := { name := "composeInsert", fn := fun _ => fun
  | [d1, d2, d3] => { results := [.lit (.bool false)], args := [d1, d2, d3] }
  | _ => none }
def ComposeInsertWrongFalsely : Prop := composeInsertRow.holds Tryz.pinned (OpenSpec.ofChange composeInsertWrong)

/-- 'vinculumlaw14.ComposeErase': WHATEVER THE INPUT: true; the input reads as it did. -/
def composeEraseSpec : ChangeSpec := { name := "composeErase", fn := fun _ => fun
  | [d1, d2, d3] => { results := [.lit (.bool true)], args := [d1, d2, d3] }
  | _ => none }
def composeEraseRow : OpenClaim := { program := "ytbjcioknfjofkaagreat", sum := "6886e903008c1fe14bebf0d944ee6ea48074b2e297835d74e3046670d8754acc", func := "vinculum/vinculumlaw14.ComposeErase", spec := "composeErase", inPlace := ["internal/bytealg.IndexByteString", "internal/bytealg.IndexString"], unfollowed := true, recurses := true, named := ["internal/bytealg.MaxLen"], loops := true, apart := false }
def ComposeEraseSaid : Prop := composeEraseRow.holds Tryz.pinned (OpenSpec.ofChange composeEraseSpec)

/-- ITS FALSE NEIGHBOUR: 'it returns false'. Refute it at one input. -/
def composeEraseWrong : ChangeSpec := { name := "composeErase", fn := fun _ => fun
  | [d1, d2, d3] => { results := [.lit (.bool false)], args := [d1, d2, d3] }
  | _ => none }
def ComposeEraseWrongFalsely : Prop := composeEraseRow.holds Tryz.pinned (OpenSpec.ofChange composeEraseWrong)

/-- 'vinculumlaw14.ComposeWrap': WHATEVER THE INPUT: true; the input reads as it did. -/
def composeWrapSpec : ChangeSpec := { name := "composeWrap", fn := fun _ => fun
  | [d1, d2, d3] => { results := [.lit (.bool true)], args := [d1, d2, d3] }
  | _ => none }
def composeWrapRow : OpenClaim := { program := "ytbjcioknfjofkaagreat", sum := "6886e903008c1fe14bebf0d944ee6ea48074b2e297835d74e3046670d8754acc", func := "vinculum/vinculumlaw14.ComposeWrap", spec := "composeWrap", inPlace := ["internal/bytealg.IndexByteString", "internal/bytealg.IndexString"], unfollowed := true, recurses := true, named := ["internal/bytealg.MaxLen"], loops := true, apart := false }
def ComposeWrapSaid : Prop := composeWrapRow.holds Tryz.pinned (OpenSpec.ofChange composeWrapSpec)

/-- ITS FALSE NEIGHBOUR: 'it returns false'. Refute it at one input. -/
def composeWrapWrong : ChangeSpec := { name := "composeWrap", fn := fun _ => fun
  | [d1, d2, d3] => { results := [.lit (.bool false)], args := [d1, d2, d3] }
  | _ => none }
def ComposeWrapWrongFalsely : Prop := composeWrapRow.holds Tryz.pinned (OpenSpec.ofChange composeWrapWrong)

/-- 'vinculumlaw14.ComposeAround': WHATEVER THE INPUT: true; the input reads as it did. -/
def composeAroundSpec : ChangeSpec := { name := "composeAround", fn := fun _ => fun
  | [d1, d2, d3] => { results := [.lit (.bool true)], args := [d1, d2, d3] }
  | _ => none }
def composeAroundRow : OpenClaim := { program := "ytbjcioknfjofkaagreat", sum := "6886e903008c1fe14bebf0d944ee6ea48074b2e297835d74e3046670d8754acc", func := "vinculum/vinculumlaw14.ComposeAround", spec := "composeAround", inPlace := ["internal/bytealg.IndexByteString", "internal/bytealg.IndexString"], unfollowed := true, recurses := true, named := ["internal/bytealg.MaxLen"], loops := true, apart := false }
def ComposeAroundSaid : Prop := composeAroundRow.holds Tryz.pinned (OpenSpec.ofChange composeAroundSpec)

/-- ITS FALSE NEIGHBOUR: 'it returns false'. Refute it at one input. -/
def composeAroundWrong : ChangeSpec := { name := "composeAround", fn := fun _ => fun
  | [d1, d2, d3] => { results := [.lit (.bool false)], args := [d1, d2, d3] }
  | _ => none }
def ComposeAroundWrongFalsely : Prop := composeAroundRow.holds Tryz.pinned (OpenSpec.ofChange composeAroundWrong)

/-- 'vinculumlaw14.ComposeSet': WHATEVER THE INPUT: true; the input reads as it did. -/
def composeSetSpec : ChangeSpec := { name := "composeSet", fn := fun _ => fun
  | [d1, d2, d3] => { results := [.lit (.bool true)], args := [d1, d2, d3] }
  | _ => none }
def composeSetRow : OpenClaim := { program := "ytbjcioknfjofkaagreat", sum := "6886e903008c1fe14bebf0d944ee6ea48074b2e297835d74e3046670d8754acc", func := "vinculum/vinculumlaw14.ComposeSet", spec := "composeSet", inPlace := ["internal/bytealg.IndexByteString", "internal/bytealg.IndexString"], unfollowed := true, recurses := true, named := ["internal/bytealg.MaxLen"], loops := true, apart := false }
def ComposeSetSaid : Prop := composeSetRow.holds Tryz.pinned (OpenSpec.ofChange composeSetSpec)

/-- ITS FALSE NEIGHBOUR: 'it returns false'. Refute it at one input. -/
def composeSetWrong : ChangeSpec := { name := "composeSet", fn := fun _ => fun
  | [d1, d2, d3] => { results := [.lit (.bool false)], args := [d1, d2, d3] }
  | _ => none }
def ComposeSetWrongFalsely : Prop := composeSetRow.holds Tryz.pinned (OpenSpec.ofChange composeSetWrong)

/-- 'vinculumlaw14.ComposeRecords': WHATEVER THE INPUT: true; the input reads as it did. -/
def composeRecordsSpec : ChangeSpec := { name := "composeRecords", fn := fun _ => fun
  | [d1, d2, d3] => { results := [.lit (.bool true)], args := [d1, d2, d3] }
  | _ => none }
def composeRecordsRow : OpenClaim := { program := "ytbjcioknfjofkaagreat", sum := "6886e903008c1fe14bebf0d944ee6ea48074b2e297835d74e3046670d8754acc", func := "vinculum/vinculumlaw14.ComposeRecords", spec := "composeRecords", inPlace := ["internal/bytealg.IndexByteString", "internal/bytealg.IndexString"], unfollowed := true, recurses := true, named := ["internal/bytealg.MaxLen"], loops := true, apart := false }
def ComposeRecordsSaid : Prop := composeRecordsRow.holds Tryz.pinned (OpenSpec.ofChange composeRecordsSpec)

/-- ITS FALSE NEIGHBOUR: 'it returns false'. Refute it at one input. -/
def composeRecordsWrong : ChangeSpec := { name := "composeRecords", fn := fun _ => fun
  | [d1, d2, d3] => { results := [.lit (.bool false)], args := [d1, d2, d3] }
  | _ => none }
def ComposeRecordsWrongFalsely : Prop := composeRecordsRow.holds Tryz.pinned (OpenSpec.ofChange composeRecordsWrong)

/- THE SECOND FORM. 'bulk': how many values and letters a reading holds, each counted each time it is reached (what is shared counts as often as it is met; a slice's spare places count too). A statement '..UptoSaid' is the law's where the arguments, and the package variables that the reading takes, are together of bulk at most 1048576: NARROWER than '..Said'. Prove '..Said' where nothing that the law and all that it calls make is longer than what came in: it says more and counts as full. Else prove '..UptoSaid'. A law counts once. -/
mutual
def uptoBulk {H : Type} : DataW H → Nat
  | .lit (.string bytes) => bytes.length + 1
  | .lit _ => 1
  | .nil => 1
  | .ptr d => uptoBulk d + 1
  | .slice elems spare => uptoBulkAll elems + uptoBulkAll spare + 1
  | .agg parts => uptoBulkAll parts + 1
  | .iface _ d => uptoBulk d + 1
  | .map entries => uptoBulkEntries entries + 1
  | .held _ => 1
def uptoBulkAll {H : Type} : List (DataW H) → Nat
  | [] => 0
  | d :: r => uptoBulk d + uptoBulkAll r
def uptoBulkEntries {H : Type} : List (Lit × DataW H) → Nat
  | [] => 0
  | x :: r => uptoBulkEntry x + uptoBulkEntries r
def uptoBulkEntry {H : Type} : Lit × DataW H → Nat
  | (.string bytes, d) => bytes.length + uptoBulk d + 1
  | (_, d) => uptoBulk d + 1
 end
def uptoSmall : (H : Type) → List (DataW H) → Bool := fun _ ds => decide (uptoBulkAll ds ≤ 1048576)
def OpenSpec.upto (s : _root_.Go.ChangeSpec) : _root_.Go.OpenSpec := { _root_.Go.OpenSpec.ofChange s with cond := some uptoSmall }

/-- 'vinculumlaw14.ComposeErases', WHERE WHAT IT READS IS OF BULK AT MOST 1048576: true; the input reads as it did. -/
def composeErasesUptoRow : OpenClaim := { program := "ytbjcioknfjofkaagreat", sum := "6886e903008c1fe14bebf0d944ee6ea48074b2e297835d74e3046670d8754acc", func := "vinculum/vinculumlaw14.ComposeErases", spec := "composeErases", inPlace := ["internal/bytealg.IndexByteString", "internal/bytealg.IndexString"], unfollowed := true, recurses := true, named := ["internal/bytealg.MaxLen"], loops := true, apart := false, narrowed := true }
def ComposeErasesUptoSaid : Prop := composeErasesUptoRow.holds Tryz.pinned (OpenSpec.upto composeErasesSpec)

/-- 'vinculumlaw14.ComposeReinsert', WHERE WHAT IT READS IS OF BULK AT MOST 1048576: true; the input reads as it did. -/
def composeReinsertUptoRow : OpenClaim := { program := "ytbjcioknfjofkaagreat", sum := "6886e903008c1fe14bebf0d944ee6ea48074b2e297835d74e3046670d8754acc", func := "vinculum/vinculumlaw14.ComposeReinsert", spec := "composeReinsert", inPlace := ["internal/bytealg.IndexByteString", "internal/bytealg.IndexString"], unfollowed := true, recurses := true, named := ["internal/bytealg.MaxLen"], loops := true, apart := false, narrowed := true }
def ComposeReinsertUptoSaid : Prop := composeReinsertUptoRow.holds Tryz.pinned (OpenSpec.upto composeReinsertSpec)

/-- 'vinculumlaw14.ComposeWrapUnwrap', WHERE WHAT IT READS IS OF BULK AT MOST 1048576: true; the input reads as it did. -/
def composeWrapUnwrapUptoRow : OpenClaim := { program := "ytbjcioknfjofkaagreat", sum := "6886e903008c1fe14bebf0d944ee6ea48074b2e297835d74e3046670d8754acc", func := "vinculum/vinculumlaw14.ComposeWrapUnwrap", spec := "composeWrapUnwrap", inPlace := ["internal/bytealg.IndexByteString", "internal/bytealg.IndexString"], unfollowed := true, recurses := true, named := ["internal/bytealg.MaxLen"], loops := true, apart := false, narrowed := true }
def ComposeWrapUnwrapUptoSaid : Prop := composeWrapUnwrapUptoRow.holds Tryz.pinned (OpenSpec.upto composeWrapUnwrapSpec)

/-- 'vinculumlaw14.ComposeInsert', WHERE WHAT IT READS IS OF BULK AT MOST 1048576: true; the input reads as it did. -/
def composeInsertUptoRow : OpenClaim := { program := "ytbjcioknfjofkaagreat", sum := "6886e903008c1fe14bebf0d944ee6ea48074b2e297835d74e3046670d8754acc", func := "vinculum/vinculumlaw14.ComposeInsert", spec := "composeInsert", inPlace := ["internal/bytealg.IndexByteString", "internal/bytealg.IndexString"], unfollowed := true, recurses := true, named := ["internal/bytealg.MaxLen"], loops := true, apart := false, narrowed := true }
def ComposeInsertUptoSaid : Prop := composeInsertUptoRow.holds Tryz.pinned (OpenSpec.upto composeInsertSpec)

/-- 'vinculumlaw14.ComposeErase', WHERE WHAT IT READS IS OF BULK AT MOST 1048576: true; the input reads as it did. -/
def composeEraseUptoRow : OpenClaim := { program := "ytbjcioknfjofkaagreat", sum := "6886e903008c1fe14bebf0d944ee6ea48074b2e297835d74e3046670d8754acc", func := "vinculum/vinculumlaw14.ComposeErase", spec := "composeErase", inPlace := ["internal/bytealg.IndexByteString", "internal/bytealg.IndexString"], unfollowed := true, recurses := true, named := ["internal/bytealg.MaxLen"], loops := true, apart := false, narrowed := true }
def ComposeEraseUptoSaid : Prop := composeEraseUptoRow.holds Tryz.pinned (OpenSpec.upto composeEraseSpec)

/-- 'vinculumlaw14.ComposeWrap', WHERE WHAT IT READS IS OF BULK AT MOST 1048576: true; the input reads as it did. -/
def composeWrapUptoRow : OpenClaim := { program := "ytbjcioknfjofkaagreat", sum := "6886e903008c1fe14bebf0d944ee6ea48074b2e297835d74e3046670d8754acc", func := "vinculum/vinculumlaw14.ComposeWrap", spec := "composeWrap", inPlace := ["internal/bytealg.IndexByteString", "internal/bytealg.IndexString"], unfollowed := true, recurses := true, named := ["internal/bytealg.MaxLen"], loops := true, apart := false, narrowed := true }
def ComposeWrapUptoSaid : Prop := composeWrapUptoRow.holds Tryz.pinned (OpenSpec.upto composeWrapSpec)

/-- 'vinculumlaw14.ComposeAround', WHERE WHAT IT READS IS OF BULK AT MOST 1048576: true; the input reads as it did. -/
def composeAroundUptoRow : OpenClaim := { program := "ytbjcioknfjofkaagreat", sum := "6886e903008c1fe14bebf0d944ee6ea48074b2e297835d74e3046670d8754acc", func := "vinculum/vinculumlaw14.ComposeAround", spec := "composeAround", inPlace := ["internal/bytealg.IndexByteString", "internal/bytealg.IndexString"], unfollowed := true, recurses := true, named := ["internal/bytealg.MaxLen"], loops := true, apart := false, narrowed := true }
def ComposeAroundUptoSaid : Prop := composeAroundUptoRow.holds Tryz.pinned (OpenSpec.upto composeAroundSpec)

/-- 'vinculumlaw14.ComposeSet', WHERE WHAT IT READS IS OF BULK AT MOST 1048576: true; the input reads as it did. -/
def composeSetUptoRow : OpenClaim := { program := "ytbjcioknfjofkaagreat", sum := "6886e903008c1fe14bebf0d944ee6ea48074b2e297835d74e3046670d8754acc", func := "vinculum/vinculumlaw14.ComposeSet", spec := "composeSet", inPlace := ["internal/bytealg.IndexByteString", "internal/bytealg.IndexString"], unfollowed := true, recurses := true, named := ["internal/bytealg.MaxLen"], loops := true, apart := false, narrowed := true }
def ComposeSetUptoSaid : Prop := composeSetUptoRow.holds Tryz.pinned (OpenSpec.upto composeSetSpec)

/-- 'vinculumlaw14.ComposeRecords', WHERE WHAT IT READS IS OF BULK AT MOST 1048576: true; the input reads as it did. -/
def composeRecordsUptoRow : OpenClaim := { program := "ytbjcioknfjofkaagreat", sum := "6886e903008c1fe14bebf0d944ee6ea48074b2e297835d74e3046670d8754acc", func := "vinculum/vinculumlaw14.ComposeRecords", spec := "composeRecords", inPlace := ["internal/bytealg.IndexByteString", "internal/bytealg.IndexString"], unfollowed := true, recurses := true, named := ["internal/bytealg.MaxLen"], loops := true, apart := false, narrowed := true }
def ComposeRecordsUptoSaid : Prop := composeRecordsUptoRow.holds Tryz.pinned (OpenSpec.upto composeRecordsSpec)

end Rows
end Go.Proofs.YtbjcioknfjofkaaGreat
