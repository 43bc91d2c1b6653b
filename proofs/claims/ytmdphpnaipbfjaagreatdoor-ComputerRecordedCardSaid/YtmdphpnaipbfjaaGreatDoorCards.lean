/-
  DERIVED. GIVEN WITH THE SEED: THE CARDS: each row of YtmdphpnaipbfjaaGreatDoorRows.lean that lists a variable, with what it lists TIED to the program's text (the seventh form; the later family's looks); each row that meets fmt, with fmt's text TOLD by the authors' own Lean function (tested against real Go, not proved from fmt's source: count such statements apart). THE CARD IS WHAT COUNTS. Prove the row's statement (the work); the ties are given (YtmdphpnaipbfjaaGreatDoorTie.lean); close each card by the builder's one call (the guide's Derived/Test/ToyasCard.lean, 'card_holds'). Laid BY PROGRAM, IN A SANDBOX (cutbox-door.mjs). By AI agents, Wed Nov 11 2026. No macro, syntax, notation, axiom, sorry.
-/
import Derived.Test.YtmdphpnaipbfjaaGreatDoorRows
import GoSem.ClaimSeven
namespace Go.Proofs.YtmdphpnaipbfjaaGreatDoor
namespace Rows

/-- THE TIED CARD OF 'garboardlaw59.ComputerRecorded'. -/
def computerRecordedCard : Claim7 := { stood := { row := computerRecordedRow, standIns := [], harness := (true, "fcb7e5ed1fbb9972218d52281ee3e120e57d44a5ff917cacbae73796a423d2dc"), looks := true }, kinds := [], alts := [], laidByText := true, laidKinds := [.data, .data, .data, .sentinel, .sentinel], laidTests := true, laidLooks := .later }
def ComputerRecordedCardSaid : Prop := Claim7.holds Tryz.pinned (.plain (OpenSpec.ofChange computerRecordedSpec)) computerRecordedCard

/-- THE SECOND FORM's CARD OF 'garboardlaw59.ComputerRecorded'. -/
def computerRecordedUptoCard : Claim7 := { stood := { row := computerRecordedUptoRow, standIns := [], harness := (true, "fcb7e5ed1fbb9972218d52281ee3e120e57d44a5ff917cacbae73796a423d2dc"), looks := true }, kinds := [], alts := [], laidByText := true, laidKinds := [.data, .data, .data, .sentinel, .sentinel], laidTests := true, laidLooks := .later }
def ComputerRecordedUptoCardSaid : Prop := Claim7.holds Tryz.pinned (.plain (OpenSpec.upto computerRecordedSpec)) computerRecordedUptoCard
end Rows
end Go.Proofs.YtmdphpnaipbfjaaGreatDoor
