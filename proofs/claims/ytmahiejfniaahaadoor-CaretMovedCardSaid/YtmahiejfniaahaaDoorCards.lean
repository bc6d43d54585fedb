/-
  DERIVED. GIVEN WITH THE SEED: THE CARDS: each row of YtmahiejfniaahaaDoorRows.lean that lists a variable, with what it lists TIED to the program's text (the seventh form; the later family's looks); each row that meets fmt, with fmt's text TOLD by the authors' own Lean function (tested against real Go, not proved from fmt's source: count such statements apart). THE CARD IS WHAT COUNTS. Prove the row's statement (the work); the ties are given (YtmahiejfniaahaaDoorTie.lean); close each card by the builder's one call (the guide's Derived/Test/ToyasCard.lean, 'card_holds'). Laid BY PROGRAM, IN A SANDBOX (cutbox-door.mjs). By AI agents, Wed Nov 11 2026. No macro, syntax, notation, axiom, sorry.
-/
import Derived.Test.YtmahiejfniaahaaDoorRows
import GoSem.ClaimSeven
namespace Go.Proofs.YtmahiejfniaahaaDoor
namespace Rows

/-- THE TIED CARD OF 'vinculumlaw40.CaretMoved'. -/
def caretMovedCard : Claim7 := { stood := { row := caretMovedRow, standIns := [], harness := (true, "f87ad3a7ab7f246fcbcc819580ba2de97262d52b191e803b023d8c2a4787ea76"), looks := false }, kinds := [], alts := [], laidByText := true, laidKinds := [.data, .data, .data], laidTests := true, laidLooks := .later }
def CaretMovedCardSaid : Prop := Claim7.holds Tryd.pinned (.plain (OpenSpec.ofChange caretMovedSpec)) caretMovedCard

/-- THE TIED CARD OF 'vinculumlaw41.HitDistance'. -/
def hitDistanceCard : Claim7 := { stood := { row := hitDistanceRow, standIns := [], harness := (true, "f87ad3a7ab7f246fcbcc819580ba2de97262d52b191e803b023d8c2a4787ea76"), looks := false }, kinds := [], alts := [], laidByText := true, laidKinds := [.data, .data, .data], laidTests := true, laidLooks := .later }
def HitDistanceCardSaid : Prop := Claim7.holds Tryd.pinned (.plain (OpenSpec.ofChange hitDistanceSpec)) hitDistanceCard

/-- THE SECOND FORM's CARD OF 'vinculumlaw40.CaretMoved'. -/
def caretMovedUptoCard : Claim7 := { stood := { row := caretMovedUptoRow, standIns := [], harness := (true, "f87ad3a7ab7f246fcbcc819580ba2de97262d52b191e803b023d8c2a4787ea76"), looks := false }, kinds := [], alts := [], laidByText := true, laidKinds := [.data, .data, .data], laidTests := true, laidLooks := .later }
def CaretMovedUptoCardSaid : Prop := Claim7.holds Tryd.pinned (.plain (OpenSpec.upto caretMovedSpec)) caretMovedUptoCard

/-- THE SECOND FORM's CARD OF 'vinculumlaw41.HitDistance'. -/
def hitDistanceUptoCard : Claim7 := { stood := { row := hitDistanceUptoRow, standIns := [], harness := (true, "f87ad3a7ab7f246fcbcc819580ba2de97262d52b191e803b023d8c2a4787ea76"), looks := false }, kinds := [], alts := [], laidByText := true, laidKinds := [.data, .data, .data], laidTests := true, laidLooks := .later }
def HitDistanceUptoCardSaid : Prop := Claim7.holds Tryd.pinned (.plain (OpenSpec.upto hitDistanceSpec)) hitDistanceUptoCard
end Rows
end Go.Proofs.YtmahiejfniaahaaDoor
