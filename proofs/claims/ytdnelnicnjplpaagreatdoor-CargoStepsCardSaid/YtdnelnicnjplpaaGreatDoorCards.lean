/-
  DERIVED. GIVEN WITH THE SEED: THE CARDS: each row of YtdnelnicnjplpaaGreatDoorRows.lean that lists a variable, with what it lists TIED to the program's text (the seventh form; the later family's looks); each row that meets fmt, with fmt's text TOLD by the authors' own Lean function (tested against real Go, not proved from fmt's source: count such statements apart). THE CARD IS WHAT COUNTS. Prove the row's statement (the work); the ties are given (YtdnelnicnjplpaaGreatDoorTie.lean); close each card by the builder's one call (the guide's Derived/Test/ToyasCard.lean, 'card_holds'). Laid BY PROGRAM, IN A SANDBOX (cutbox-door.mjs). By AI agents, Wed Nov 11 2026. No macro, syntax, notation, axiom, sorry.
-/
import Derived.Test.YtdnelnicnjplpaaGreatDoorRows
import GoSem.ClaimSeven
namespace Go.Proofs.YtdnelnicnjplpaaGreatDoor
namespace Rows

/-- THE TIED CARD OF 'garboardlaw47.CargoChecks'. -/
def cargoChecksCard : Claim7 := { stood := { row := cargoChecksRow, standIns := [], harness := (true, "690f033315fe6964f31aa6352898da1f1f43e8cfa41ee4d7149f812e7721e3c9"), looks := true }, kinds := [], alts := [], laidByText := true, laidKinds := [.data, .data, .data, .sentinel, .sentinel], laidTests := true, laidLooks := .later }
def CargoChecksCardSaid : Prop := Claim7.holds Tryz.pinned (.plain (OpenSpec.ofChange cargoChecksSpec)) cargoChecksCard

/-- THE TIED CARD OF 'garboardlaw47.CargoHolds'. -/
def cargoHoldsCard : Claim7 := { stood := { row := cargoHoldsRow, standIns := [], harness := (true, "690f033315fe6964f31aa6352898da1f1f43e8cfa41ee4d7149f812e7721e3c9"), looks := true }, kinds := [], alts := [], laidByText := true, laidKinds := [.data, .data, .data, .sentinel, .sentinel], laidTests := true, laidLooks := .later }
def CargoHoldsCardSaid : Prop := Claim7.holds Tryz.pinned (.plain (OpenSpec.ofChange cargoHoldsSpec)) cargoHoldsCard

/-- THE TIED CARD OF 'garboardlaw47.CargoPuts'. -/
def cargoPutsCard : Claim7 := { stood := { row := cargoPutsRow, standIns := [], harness := (true, "690f033315fe6964f31aa6352898da1f1f43e8cfa41ee4d7149f812e7721e3c9"), looks := true }, kinds := [], alts := [], laidByText := true, laidKinds := [.data, .data, .data, .sentinel, .sentinel], laidTests := true, laidLooks := .later }
def CargoPutsCardSaid : Prop := Claim7.holds Tryz.pinned (.plain (OpenSpec.ofChange cargoPutsSpec)) cargoPutsCard

/-- THE TIED CARD OF 'garboardlaw47.CargoAmounts'. -/
def cargoAmountsCard : Claim7 := { stood := { row := cargoAmountsRow, standIns := [], harness := (true, "690f033315fe6964f31aa6352898da1f1f43e8cfa41ee4d7149f812e7721e3c9"), looks := true }, kinds := [], alts := [], laidByText := true, laidKinds := [.data, .data, .data, .sentinel, .sentinel], laidTests := true, laidLooks := .later }
def CargoAmountsCardSaid : Prop := Claim7.holds Tryz.pinned (.plain (OpenSpec.ofChange cargoAmountsSpec)) cargoAmountsCard

/-- THE TIED CARD OF 'garboardlaw47.CargoTogether'. -/
def cargoTogetherCard : Claim7 := { stood := { row := cargoTogetherRow, standIns := [], harness := (true, "690f033315fe6964f31aa6352898da1f1f43e8cfa41ee4d7149f812e7721e3c9"), looks := true }, kinds := [], alts := [], laidByText := true, laidKinds := [.data, .data, .data, .sentinel, .sentinel], laidTests := true, laidLooks := .later }
def CargoTogetherCardSaid : Prop := Claim7.holds Tryz.pinned (.plain (OpenSpec.ofChange cargoTogetherSpec)) cargoTogetherCard

/-- THE TIED CARD OF 'garboardlaw47.CargoUndone'. -/
def cargoUndoneCard : Claim7 := { stood := { row := cargoUndoneRow, standIns := [], harness := (true, "690f033315fe6964f31aa6352898da1f1f43e8cfa41ee4d7149f812e7721e3c9"), looks := true }, kinds := [], alts := [], laidByText := true, laidKinds := [.data, .data, .data, .sentinel, .sentinel], laidTests := true, laidLooks := .later }
def CargoUndoneCardSaid : Prop := Claim7.holds Tryz.pinned (.plain (OpenSpec.ofChange cargoUndoneSpec)) cargoUndoneCard

/-- THE TIED CARD OF 'garboardlaw47.CargoBoth'. -/
def cargoBothCard : Claim7 := { stood := { row := cargoBothRow, standIns := [], harness := (true, "690f033315fe6964f31aa6352898da1f1f43e8cfa41ee4d7149f812e7721e3c9"), looks := true }, kinds := [], alts := [], laidByText := true, laidKinds := [.data, .data, .data, .sentinel, .sentinel], laidTests := true, laidLooks := .later }
def CargoBothCardSaid : Prop := Claim7.holds Tryz.pinned (.plain (OpenSpec.ofChange cargoBothSpec)) cargoBothCard

/-- THE TIED CARD OF 'garboardlaw47.CargoSteps'. -/
def cargoStepsCard : Claim7 := { stood := { row := cargoStepsRow, standIns := [], harness := (true, "690f033315fe6964f31aa6352898da1f1f43e8cfa41ee4d7149f812e7721e3c9"), looks := true }, kinds := [], alts := [], laidByText := true, laidKinds := [.data, .data, .data, .sentinel, .sentinel], laidTests := true, laidLooks := .later }
def CargoStepsCardSaid : Prop := Claim7.holds Tryz.pinned (.plain (OpenSpec.ofChange cargoStepsSpec)) cargoStepsCard

/-- THE SECOND FORM's CARD OF 'garboardlaw47.CargoChecks'. -/
def cargoChecksUptoCard : Claim7 := { stood := { row := cargoChecksUptoRow, standIns := [], harness := (true, "690f033315fe6964f31aa6352898da1f1f43e8cfa41ee4d7149f812e7721e3c9"), looks := true }, kinds := [], alts := [], laidByText := true, laidKinds := [.data, .data, .data, .sentinel, .sentinel], laidTests := true, laidLooks := .later }
def CargoChecksUptoCardSaid : Prop := Claim7.holds Tryz.pinned (.plain (OpenSpec.upto cargoChecksSpec)) cargoChecksUptoCard

/-- THE SECOND FORM's CARD OF 'garboardlaw47.CargoHolds'. -/
def cargoHoldsUptoCard : Claim7 := { stood := { row := cargoHoldsUptoRow, standIns := [], harness := (true, "690f033315fe6964f31aa6352898da1f1f43e8cfa41ee4d7149f812e7721e3c9"), looks := true }, kinds := [], alts := [], laidByText := true, laidKinds := [.data, .data, .data, .sentinel, .sentinel], laidTests := true, laidLooks := .later }
def CargoHoldsUptoCardSaid : Prop := Claim7.holds Tryz.pinned (.plain (OpenSpec.upto cargoHoldsSpec)) cargoHoldsUptoCard

/-- THE SECOND FORM's CARD OF 'garboardlaw47.CargoPuts'. -/
def cargoPutsUptoCard : Claim7 := { stood := { row := cargoPutsUptoRow, standIns := [], harness := (true, "690f033315fe6964f31aa6352898da1f1f43e8cfa41ee4d7149f812e7721e3c9"), looks := true }, kinds := [], alts := [], laidByText := true, laidKinds := [.data, .data, .data, .sentinel, .sentinel], laidTests := true, laidLooks := .later }
def CargoPutsUptoCardSaid : Prop := Claim7.holds Tryz.pinned (.plain (OpenSpec.upto cargoPutsSpec)) cargoPutsUptoCard

/-- THE SECOND FORM's CARD OF 'garboardlaw47.CargoAmounts'. -/
def cargoAmountsUptoCard : Claim7 := { stood := { row := cargoAmountsUptoRow, standIns := [], harness := (true, "690f033315fe6964f31aa6352898da1f1f43e8cfa41ee4d7149f812e7721e3c9"), looks := true }, kinds := [], alts := [], laidByText := true, laidKinds := [.data, .data, .data, .sentinel, .sentinel], laidTests := true, laidLooks := .later }
def CargoAmountsUptoCardSaid : Prop := Claim7.holds Tryz.pinned (.plain (OpenSpec.upto cargoAmountsSpec)) cargoAmountsUptoCard

/-- THE SECOND FORM's CARD OF 'garboardlaw47.CargoTogether'. -/
def cargoTogetherUptoCard : Claim7 := { stood := { row := cargoTogetherUptoRow, standIns := [], harness := (true, "690f033315fe6964f31aa6352898da1f1f43e8cfa41ee4d7149f812e7721e3c9"), looks := true }, kinds := [], alts := [], laidByText := true, laidKinds := [.data, .data, .data, .sentinel, .sentinel], laidTests := true, laidLooks := .later }
def CargoTogetherUptoCardSaid : Prop := Claim7.holds Tryz.pinned (.plain (OpenSpec.upto cargoTogetherSpec)) cargoTogetherUptoCard

/-- THE SECOND FORM's CARD OF 'garboardlaw47.CargoUndone'. -/
def cargoUndoneUptoCard : Claim7 := { stood := { row := cargoUndoneUptoRow, standIns := [], harness := (true, "690f033315fe6964f31aa6352898da1f1f43e8cfa41ee4d7149f812e7721e3c9"), looks := true }, kinds := [], alts := [], laidByText := true, laidKinds := [.data, .data, .data, .sentinel, .sentinel], laidTests := true, laidLooks := .later }
def CargoUndoneUptoCardSaid : Prop := Claim7.holds Tryz.pinned (.plain (OpenSpec.upto cargoUndoneSpec)) cargoUndoneUptoCard

/-- THE SECOND FORM's CARD OF 'garboardlaw47.CargoBoth'. -/
def cargoBothUptoCard : Claim7 := { stood := { row := cargoBothUptoRow, standIns := [], harness := (true, "690f033315fe6964f31aa6352898da1f1f43e8cfa41ee4d7149f812e7721e3c9"), looks := true }, kinds := [], alts := [], laidByText := true, laidKinds := [.data, .data, .data, .sentinel, .sentinel], laidTests := true, laidLooks := .later }
def CargoBothUptoCardSaid : Prop := Claim7.holds Tryz.pinned (.plain (OpenSpec.upto cargoBothSpec)) cargoBothUptoCard

/-- THE SECOND FORM's CARD OF 'garboardlaw47.CargoSteps'. -/
def cargoStepsUptoCard : Claim7 := { stood := { row := cargoStepsUptoRow, standIns := [], harness := (true, "690f033315fe6964f31aa6352898da1f1f43e8cfa41ee4d7149f812e7721e3c9"), looks := true }, kinds := [], alts := [], laidByText := true, laidKinds := [.data, .data, .data, .sentinel, .sentinel], laidTests := true, laidLooks := .later }
def CargoStepsUptoCardSaid : Prop := Claim7.holds Tryz.pinned (.plain (OpenSpec.upto cargoStepsSpec)) cargoStepsUptoCard
end Rows
end Go.Proofs.YtdnelnicnjplpaaGreatDoor
