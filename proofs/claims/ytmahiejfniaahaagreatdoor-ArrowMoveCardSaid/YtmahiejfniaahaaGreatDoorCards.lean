/-
  DERIVED. GIVEN WITH THE SEED: THE CARDS: each row of YtmahiejfniaahaaGreatDoorRows.lean that lists a variable, with what it lists TIED to the program's text (the seventh form; the later family's looks); each row that meets fmt, with fmt's text TOLD by the authors' own Lean function (tested against real Go, not proved from fmt's source: count such statements apart). THE CARD IS WHAT COUNTS. Prove the row's statement (the work); the ties are given (YtmahiejfniaahaaGreatDoorTie.lean); close each card by the builder's one call (the guide's Derived/Test/ToyasCard.lean, 'card_holds'). Laid BY PROGRAM, IN A SANDBOX (cutbox-door.mjs). By AI agents, Wed Nov 11 2026. No macro, syntax, notation, axiom, sorry.
-/
import Derived.Test.YtmahiejfniaahaaGreatDoorRows
import GoSem.ClaimSeven
namespace Go.Proofs.YtmahiejfniaahaaGreatDoor
namespace Rows

/-- THE TIED CARD OF 'vinculumlaw40.CaretPlace'. -/
def caretPlaceCard : Claim7 := { stood := { row := caretPlaceRow, standIns := [], harness := (true, "e71d09bbeb1767a86b98fb214f50458f90dc35a26c187f1c735991051f0405a2"), looks := false }, kinds := [], alts := [], laidByText := true, laidKinds := [.data, .data, .data], laidTests := true, laidLooks := .later }
def CaretPlaceCardSaid : Prop := Claim7.holds Tryz.pinned (.plain (OpenSpec.ofChange caretPlaceSpec)) caretPlaceCard

/-- THE TIED CARD OF 'vinculumlaw40.CaretAll'. -/
def caretAllCard : Claim7 := { stood := { row := caretAllRow, standIns := [], harness := (true, "e71d09bbeb1767a86b98fb214f50458f90dc35a26c187f1c735991051f0405a2"), looks := false }, kinds := [], alts := [], laidByText := true, laidKinds := [.data, .data, .data], laidTests := true, laidLooks := .later }
def CaretAllCardSaid : Prop := Claim7.holds Tryz.pinned (.plain (OpenSpec.ofChange caretAllSpec)) caretAllCard

/-- THE TIED CARD OF 'vinculumlaw40.CaretSelect'. -/
def caretSelectCard : Claim7 := { stood := { row := caretSelectRow, standIns := [], harness := (true, "e71d09bbeb1767a86b98fb214f50458f90dc35a26c187f1c735991051f0405a2"), looks := false }, kinds := [], alts := [], laidByText := true, laidKinds := [.data, .data, .data], laidTests := true, laidLooks := .later }
def CaretSelectCardSaid : Prop := Claim7.holds Tryz.pinned (.plain (OpenSpec.ofChange caretSelectSpec)) caretSelectCard

/-- THE TIED CARD OF 'vinculumlaw41.HitAt'. -/
def hitAtCard : Claim7 := { stood := { row := hitAtRow, standIns := [], harness := (true, "e71d09bbeb1767a86b98fb214f50458f90dc35a26c187f1c735991051f0405a2"), looks := false }, kinds := [], alts := [], laidByText := true, laidKinds := [.data, .data, .data], laidTests := true, laidLooks := .later }
def HitAtCardSaid : Prop := Claim7.holds Tryz.pinned (.plain (OpenSpec.ofChange hitAtSpec)) hitAtCard

/-- THE TIED CARD OF 'vinculumlaw42.ArrowMove'. -/
def arrowMoveCard : Claim7 := { stood := { row := arrowMoveRow, standIns := [], harness := (true, "e71d09bbeb1767a86b98fb214f50458f90dc35a26c187f1c735991051f0405a2"), looks := false }, kinds := [], alts := [], laidByText := true, laidKinds := [.data, .data, .data], laidTests := true, laidLooks := .later }
def ArrowMoveCardSaid : Prop := Claim7.holds Tryz.pinned (.plain (OpenSpec.ofChange arrowMoveSpec)) arrowMoveCard

/-- THE TIED CARD OF 'vinculumlaw42.ArrowUndoes'. -/
def arrowUndoesCard : Claim7 := { stood := { row := arrowUndoesRow, standIns := [], harness := (true, "e71d09bbeb1767a86b98fb214f50458f90dc35a26c187f1c735991051f0405a2"), looks := false }, kinds := [], alts := [], laidByText := true, laidKinds := [.data, .data, .data], laidTests := true, laidLooks := .later }
def ArrowUndoesCardSaid : Prop := Claim7.holds Tryz.pinned (.plain (OpenSpec.ofChange arrowUndoesSpec)) arrowUndoesCard

/-- THE TIED CARD OF 'vinculumlaw42.ArrowReaches'. -/
def arrowReachesCard : Claim7 := { stood := { row := arrowReachesRow, standIns := [], harness := (true, "e71d09bbeb1767a86b98fb214f50458f90dc35a26c187f1c735991051f0405a2"), looks := false }, kinds := [], alts := [], laidByText := true, laidKinds := [.data, .data, .data], laidTests := true, laidLooks := .later }
def ArrowReachesCardSaid : Prop := Claim7.holds Tryz.pinned (.plain (OpenSpec.ofChange arrowReachesSpec)) arrowReachesCard

/-- THE TIED CARD OF 'vinculumlaw42.ArrowRows'. -/
def arrowRowsCard : Claim7 := { stood := { row := arrowRowsRow, standIns := [], harness := (true, "e71d09bbeb1767a86b98fb214f50458f90dc35a26c187f1c735991051f0405a2"), looks := false }, kinds := [], alts := [], laidByText := true, laidKinds := [.data, .data, .data], laidTests := true, laidLooks := .later }
def ArrowRowsCardSaid : Prop := Claim7.holds Tryz.pinned (.plain (OpenSpec.ofChange arrowRowsSpec)) arrowRowsCard

/-- THE SECOND FORM's CARD OF 'vinculumlaw40.CaretPlace'. -/
def caretPlaceUptoCard : Claim7 := { stood := { row := caretPlaceUptoRow, standIns := [], harness := (true, "e71d09bbeb1767a86b98fb214f50458f90dc35a26c187f1c735991051f0405a2"), looks := false }, kinds := [], alts := [], laidByText := true, laidKinds := [.data, .data, .data], laidTests := true, laidLooks := .later }
def CaretPlaceUptoCardSaid : Prop := Claim7.holds Tryz.pinned (.plain (OpenSpec.upto caretPlaceSpec)) caretPlaceUptoCard

/-- THE SECOND FORM's CARD OF 'vinculumlaw40.CaretAll'. -/
def caretAllUptoCard : Claim7 := { stood := { row := caretAllUptoRow, standIns := [], harness := (true, "e71d09bbeb1767a86b98fb214f50458f90dc35a26c187f1c735991051f0405a2"), looks := false }, kinds := [], alts := [], laidByText := true, laidKinds := [.data, .data, .data], laidTests := true, laidLooks := .later }
def CaretAllUptoCardSaid : Prop := Claim7.holds Tryz.pinned (.plain (OpenSpec.upto caretAllSpec)) caretAllUptoCard

/-- THE SECOND FORM's CARD OF 'vinculumlaw40.CaretSelect'. -/
def caretSelectUptoCard : Claim7 := { stood := { row := caretSelectUptoRow, standIns := [], harness := (true, "e71d09bbeb1767a86b98fb214f50458f90dc35a26c187f1c735991051f0405a2"), looks := false }, kinds := [], alts := [], laidByText := true, laidKinds := [.data, .data, .data], laidTests := true, laidLooks := .later }
def CaretSelectUptoCardSaid : Prop := Claim7.holds Tryz.pinned (.plain (OpenSpec.upto caretSelectSpec)) caretSelectUptoCard

/-- THE SECOND FORM's CARD OF 'vinculumlaw41.HitAt'. -/
def hitAtUptoCard : Claim7 := { stood := { row := hitAtUptoRow, standIns := [], harness := (true, "e71d09bbeb1767a86b98fb214f50458f90dc35a26c187f1c735991051f0405a2"), looks := false }, kinds := [], alts := [], laidByText := true, laidKinds := [.data, .data, .data], laidTests := true, laidLooks := .later }
def HitAtUptoCardSaid : Prop := Claim7.holds Tryz.pinned (.plain (OpenSpec.upto hitAtSpec)) hitAtUptoCard

/-- THE SECOND FORM's CARD OF 'vinculumlaw42.ArrowMove'. -/
def arrowMoveUptoCard : Claim7 := { stood := { row := arrowMoveUptoRow, standIns := [], harness := (true, "e71d09bbeb1767a86b98fb214f50458f90dc35a26c187f1c735991051f0405a2"), looks := false }, kinds := [], alts := [], laidByText := true, laidKinds := [.data, .data, .data], laidTests := true, laidLooks := .later }
def ArrowMoveUptoCardSaid : Prop := Claim7.holds Tryz.pinned (.plain (OpenSpec.upto arrowMoveSpec)) arrowMoveUptoCard

/-- THE SECOND FORM's CARD OF 'vinculumlaw42.ArrowUndoes'. -/
def arrowUndoesUptoCard : Claim7 := { stood := { row := arrowUndoesUptoRow, standIns := [], harness := (true, "e71d09bbeb1767a86b98fb214f50458f90dc35a26c187f1c735991051f0405a2"), looks := false }, kinds := [], alts := [], laidByText := true, laidKinds := [.data, .data, .data], laidTests := true, laidLooks := .later }
def ArrowUndoesUptoCardSaid : Prop := Claim7.holds Tryz.pinned (.plain (OpenSpec.upto arrowUndoesSpec)) arrowUndoesUptoCard

/-- THE SECOND FORM's CARD OF 'vinculumlaw42.ArrowReaches'. -/
def arrowReachesUptoCard : Claim7 := { stood := { row := arrowReachesUptoRow, standIns := [], harness := (true, "e71d09bbeb1767a86b98fb214f50458f90dc35a26c187f1c735991051f0405a2"), looks := false }, kinds := [], alts := [], laidByText := true, laidKinds := [.data, .data, .data], laidTests := true, laidLooks := .later }
def ArrowReachesUptoCardSaid : Prop := Claim7.holds Tryz.pinned (.plain (OpenSpec.upto arrowReachesSpec)) arrowReachesUptoCard

/-- THE SECOND FORM's CARD OF 'vinculumlaw42.ArrowRows'. -/
def arrowRowsUptoCard : Claim7 := { stood := { row := arrowRowsUptoRow, standIns := [], harness := (true, "e71d09bbeb1767a86b98fb214f50458f90dc35a26c187f1c735991051f0405a2"), looks := false }, kinds := [], alts := [], laidByText := true, laidKinds := [.data, .data, .data], laidTests := true, laidLooks := .later }
def ArrowRowsUptoCardSaid : Prop := Claim7.holds Tryz.pinned (.plain (OpenSpec.upto arrowRowsSpec)) arrowRowsUptoCard
end Rows
end Go.Proofs.YtmahiejfniaahaaGreatDoor
