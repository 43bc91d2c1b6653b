/-
  DERIVED. GIVEN WITH THE SEED: THE CARDS: each row of YtbcojgcjjpggnaaGreatDoorRows.lean that lists a variable, with what it lists TIED to the program's text (the seventh form; the later family's looks); each row that meets fmt, with fmt's text TOLD by the authors' own Lean function (tested against real Go, not proved from fmt's source: count such statements apart). THE CARD IS WHAT COUNTS. Prove the row's statement (the work); the ties are given (YtbcojgcjjpggnaaGreatDoorTie.lean); close each card by the builder's one call (the guide's Derived/Test/ToyasCard.lean, 'card_holds'). Laid BY PROGRAM, IN A SANDBOX (cutbox-door.mjs). By AI agents, Wed Nov 11 2026. No macro, syntax, notation, axiom, sorry.
-/
import Derived.Test.YtbcojgcjjpggnaaGreatDoorRows
import GoSem.ClaimSeven
namespace Go.Proofs.YtbcojgcjjpggnaaGreatDoor
namespace Rows

/-- THE TIED CARD OF 'garboardlaw59.ComputerKeeps'. -/
def computerKeepsCard : Claim7 := { stood := { row := computerKeepsRow, standIns := [], harness := (true, "2ea028217e4ef39ef9904a267eea91dc97ae206fea88c3896edd322445046f98"), looks := true }, kinds := [], alts := [], laidByText := true, laidKinds := [.data, .data, .data, .sentinel, .sentinel], laidTests := true, laidLooks := .later }
def ComputerKeepsCardSaid : Prop := Claim7.holds Tryz.pinned (.plain (OpenSpec.ofChange computerKeepsSpec)) computerKeepsCard

/-- THE TIED CARD OF 'garboardlaw59.ComputerApproved'. -/
def computerApprovedCard : Claim7 := { stood := { row := computerApprovedRow, standIns := [], harness := (true, "2ea028217e4ef39ef9904a267eea91dc97ae206fea88c3896edd322445046f98"), looks := true }, kinds := [], alts := [], laidByText := true, laidKinds := [.data, .data, .data, .sentinel, .sentinel], laidTests := true, laidLooks := .later }
def ComputerApprovedCardSaid : Prop := Claim7.holds Tryz.pinned (.plain (OpenSpec.ofChange computerApprovedSpec)) computerApprovedCard

/-- THE TIED CARD OF 'garboardlaw59.ComputerParts'. -/
def computerPartsCard : Claim7 := { stood := { row := computerPartsRow, standIns := [], harness := (true, "2ea028217e4ef39ef9904a267eea91dc97ae206fea88c3896edd322445046f98"), looks := true }, kinds := [], alts := [], laidByText := true, laidKinds := [.data, .data, .data, .sentinel, .sentinel], laidTests := true, laidLooks := .later }
def ComputerPartsCardSaid : Prop := Claim7.holds Tryz.pinned (.plain (OpenSpec.ofChange computerPartsSpec)) computerPartsCard

/-- THE TIED CARD OF 'garboardlaw59.ComputerWatched'. -/
def computerWatchedCard : Claim7 := { stood := { row := computerWatchedRow, standIns := [], harness := (true, "2ea028217e4ef39ef9904a267eea91dc97ae206fea88c3896edd322445046f98"), looks := true }, kinds := [], alts := [], laidByText := true, laidKinds := [.data, .data, .data, .sentinel, .sentinel], laidTests := true, laidLooks := .later }
def ComputerWatchedCardSaid : Prop := Claim7.holds Tryz.pinned (.plain (OpenSpec.ofChange computerWatchedSpec)) computerWatchedCard

/-- THE SECOND FORM's CARD OF 'garboardlaw59.ComputerKeeps'. -/
def computerKeepsUptoCard : Claim7 := { stood := { row := computerKeepsUptoRow, standIns := [], harness := (true, "2ea028217e4ef39ef9904a267eea91dc97ae206fea88c3896edd322445046f98"), looks := true }, kinds := [], alts := [], laidByText := true, laidKinds := [.data, .data, .data, .sentinel, .sentinel], laidTests := true, laidLooks := .later }
def ComputerKeepsUptoCardSaid : Prop := Claim7.holds Tryz.pinned (.plain (OpenSpec.upto computerKeepsSpec)) computerKeepsUptoCard

/-- THE SECOND FORM's CARD OF 'garboardlaw59.ComputerApproved'. -/
def computerApprovedUptoCard : Claim7 := { stood := { row := computerApprovedUptoRow, standIns := [], harness := (true, "2ea028217e4ef39ef9904a267eea91dc97ae206fea88c3896edd322445046f98"), looks := true }, kinds := [], alts := [], laidByText := true, laidKinds := [.data, .data, .data, .sentinel, .sentinel], laidTests := true, laidLooks := .later }
def ComputerApprovedUptoCardSaid : Prop := Claim7.holds Tryz.pinned (.plain (OpenSpec.upto computerApprovedSpec)) computerApprovedUptoCard

/-- THE SECOND FORM's CARD OF 'garboardlaw59.ComputerParts'. -/
def computerPartsUptoCard : Claim7 := { stood := { row := computerPartsUptoRow, standIns := [], harness := (true, "2ea028217e4ef39ef9904a267eea91dc97ae206fea88c3896edd322445046f98"), looks := true }, kinds := [], alts := [], laidByText := true, laidKinds := [.data, .data, .data, .sentinel, .sentinel], laidTests := true, laidLooks := .later }
def ComputerPartsUptoCardSaid : Prop := Claim7.holds Tryz.pinned (.plain (OpenSpec.upto computerPartsSpec)) computerPartsUptoCard

/-- THE SECOND FORM's CARD OF 'garboardlaw59.ComputerWatched'. -/
def computerWatchedUptoCard : Claim7 := { stood := { row := computerWatchedUptoRow, standIns := [], harness := (true, "2ea028217e4ef39ef9904a267eea91dc97ae206fea88c3896edd322445046f98"), looks := true }, kinds := [], alts := [], laidByText := true, laidKinds := [.data, .data, .data, .sentinel, .sentinel], laidTests := true, laidLooks := .later }
def ComputerWatchedUptoCardSaid : Prop := Claim7.holds Tryz.pinned (.plain (OpenSpec.upto computerWatchedSpec)) computerWatchedUptoCard
end Rows
end Go.Proofs.YtbcojgcjjpggnaaGreatDoor
