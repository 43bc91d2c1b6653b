/-
  DERIVED. GIVEN WITH THE SEED: THE CARDS: each row of YtdoailkigecmkaaGreatDoorRows.lean that lists a variable, with what it lists TIED to the program's text (the seventh form; the later family's looks); each row that meets fmt, with fmt's text TOLD by the authors' own Lean function (tested against real Go, not proved from fmt's source: count such statements apart). THE CARD IS WHAT COUNTS. Prove the row's statement (the work); the ties are given (YtdoailkigecmkaaGreatDoorTie.lean); close each card by the builder's one call (the guide's Derived/Test/ToyasCard.lean, 'card_holds'). Laid BY PROGRAM, IN A SANDBOX (cutbox-door.mjs). By AI agents, Wed Nov 11 2026. No macro, syntax, notation, axiom, sorry.
-/
import Derived.Test.YtdoailkigecmkaaGreatDoorRows
import GoSem.ClaimSeven
namespace Go.Proofs.YtdoailkigecmkaaGreatDoor
namespace Rows

/-- THE TIED CARD OF 'garboardlaw55.SensorChecks'. -/
def sensorChecksCard : Claim7 := { stood := { row := sensorChecksRow, standIns := [], harness := (true, "b09d3f032d4b88cff47933a8facc391d934a62fbdfde3ff0c849c3051bd3dac4"), looks := true }, kinds := [], alts := [], laidByText := true, laidKinds := [.data, .data, .data, .sentinel, .sentinel], laidTests := true, laidLooks := .later }
def SensorChecksCardSaid : Prop := Claim7.holds Tryz.pinned (.plain (OpenSpec.ofChange sensorChecksSpec)) sensorChecksCard

/-- THE TIED CARD OF 'garboardlaw55.SensorTakes'. -/
def sensorTakesCard : Claim7 := { stood := { row := sensorTakesRow, standIns := [], harness := (true, "b09d3f032d4b88cff47933a8facc391d934a62fbdfde3ff0c849c3051bd3dac4"), looks := true }, kinds := [], alts := [], laidByText := true, laidKinds := [.data, .data, .data, .sentinel, .sentinel], laidTests := true, laidLooks := .later }
def SensorTakesCardSaid : Prop := Claim7.holds Tryz.pinned (.plain (OpenSpec.ofChange sensorTakesSpec)) sensorTakesCard

/-- THE TIED CARD OF 'garboardlaw55.SensorVotes'. -/
def sensorVotesCard : Claim7 := { stood := { row := sensorVotesRow, standIns := [], harness := (true, "b09d3f032d4b88cff47933a8facc391d934a62fbdfde3ff0c849c3051bd3dac4"), looks := true }, kinds := [], alts := [], laidByText := true, laidKinds := [.data, .data, .data, .sentinel, .sentinel], laidTests := true, laidLooks := .later }
def SensorVotesCardSaid : Prop := Claim7.holds Tryz.pinned (.plain (OpenSpec.ofChange sensorVotesSpec)) sensorVotesCard

/-- THE TIED CARD OF 'garboardlaw55.SensorGood'. -/
def sensorGoodCard : Claim7 := { stood := { row := sensorGoodRow, standIns := [], harness := (true, "b09d3f032d4b88cff47933a8facc391d934a62fbdfde3ff0c849c3051bd3dac4"), looks := true }, kinds := [], alts := [], laidByText := true, laidKinds := [.data, .data, .data, .sentinel, .sentinel], laidTests := true, laidLooks := .later }
def SensorGoodCardSaid : Prop := Claim7.holds Tryz.pinned (.plain (OpenSpec.ofChange sensorGoodSpec)) sensorGoodCard

/-- THE TIED CARD OF 'garboardlaw55.SensorSteady'. -/
def sensorSteadyCard : Claim7 := { stood := { row := sensorSteadyRow, standIns := [], harness := (true, "b09d3f032d4b88cff47933a8facc391d934a62fbdfde3ff0c849c3051bd3dac4"), looks := true }, kinds := [], alts := [], laidByText := true, laidKinds := [.data, .data, .data, .sentinel, .sentinel], laidTests := true, laidLooks := .later }
def SensorSteadyCardSaid : Prop := Claim7.holds Tryz.pinned (.plain (OpenSpec.ofChange sensorSteadySpec)) sensorSteadyCard

/-- THE TIED CARD OF 'garboardlaw55.SensorMiddle'. -/
def sensorMiddleCard : Claim7 := { stood := { row := sensorMiddleRow, standIns := [], harness := (true, "b09d3f032d4b88cff47933a8facc391d934a62fbdfde3ff0c849c3051bd3dac4"), looks := true }, kinds := [], alts := [], laidByText := true, laidKinds := [.data, .data, .data, .sentinel, .sentinel], laidTests := true, laidLooks := .later }
def SensorMiddleCardSaid : Prop := Claim7.holds Tryz.pinned (.plain (OpenSpec.ofChange sensorMiddleSpec)) sensorMiddleCard

/-- THE TIED CARD OF 'garboardlaw55.SensorOlder'. -/
def sensorOlderCard : Claim7 := { stood := { row := sensorOlderRow, standIns := [], harness := (true, "b09d3f032d4b88cff47933a8facc391d934a62fbdfde3ff0c849c3051bd3dac4"), looks := true }, kinds := [], alts := [], laidByText := true, laidKinds := [.data, .data, .data, .sentinel, .sentinel], laidTests := true, laidLooks := .later }
def SensorOlderCardSaid : Prop := Claim7.holds Tryz.pinned (.plain (OpenSpec.ofChange sensorOlderSpec)) sensorOlderCard

/-- THE SECOND FORM's CARD OF 'garboardlaw55.SensorChecks'. -/
def sensorChecksUptoCard : Claim7 := { stood := { row := sensorChecksUptoRow, standIns := [], harness := (true, "b09d3f032d4b88cff47933a8facc391d934a62fbdfde3ff0c849c3051bd3dac4"), looks := true }, kinds := [], alts := [], laidByText := true, laidKinds := [.data, .data, .data, .sentinel, .sentinel], laidTests := true, laidLooks := .later }
def SensorChecksUptoCardSaid : Prop := Claim7.holds Tryz.pinned (.plain (OpenSpec.upto sensorChecksSpec)) sensorChecksUptoCard

/-- THE SECOND FORM's CARD OF 'garboardlaw55.SensorTakes'. -/
def sensorTakesUptoCard : Claim7 := { stood := { row := sensorTakesUptoRow, standIns := [], harness := (true, "b09d3f032d4b88cff47933a8facc391d934a62fbdfde3ff0c849c3051bd3dac4"), looks := true }, kinds := [], alts := [], laidByText := true, laidKinds := [.data, .data, .data, .sentinel, .sentinel], laidTests := true, laidLooks := .later }
def SensorTakesUptoCardSaid : Prop := Claim7.holds Tryz.pinned (.plain (OpenSpec.upto sensorTakesSpec)) sensorTakesUptoCard

/-- THE SECOND FORM's CARD OF 'garboardlaw55.SensorVotes'. -/
def sensorVotesUptoCard : Claim7 := { stood := { row := sensorVotesUptoRow, standIns := [], harness := (true, "b09d3f032d4b88cff47933a8facc391d934a62fbdfde3ff0c849c3051bd3dac4"), looks := true }, kinds := [], alts := [], laidByText := true, laidKinds := [.data, .data, .data, .sentinel, .sentinel], laidTests := true, laidLooks := .later }
def SensorVotesUptoCardSaid : Prop := Claim7.holds Tryz.pinned (.plain (OpenSpec.upto sensorVotesSpec)) sensorVotesUptoCard

/-- THE SECOND FORM's CARD OF 'garboardlaw55.SensorGood'. -/
def sensorGoodUptoCard : Claim7 := { stood := { row := sensorGoodUptoRow, standIns := [], harness := (true, "b09d3f032d4b88cff47933a8facc391d934a62fbdfde3ff0c849c3051bd3dac4"), looks := true }, kinds := [], alts := [], laidByText := true, laidKinds := [.data, .data, .data, .sentinel, .sentinel], laidTests := true, laidLooks := .later }
def SensorGoodUptoCardSaid : Prop := Claim7.holds Tryz.pinned (.plain (OpenSpec.upto sensorGoodSpec)) sensorGoodUptoCard

/-- THE SECOND FORM's CARD OF 'garboardlaw55.SensorSteady'. -/
def sensorSteadyUptoCard : Claim7 := { stood := { row := sensorSteadyUptoRow, standIns := [], harness := (true, "b09d3f032d4b88cff47933a8facc391d934a62fbdfde3ff0c849c3051bd3dac4"), looks := true }, kinds := [], alts := [], laidByText := true, laidKinds := [.data, .data, .data, .sentinel, .sentinel], laidTests := true, laidLooks := .later }
def SensorSteadyUptoCardSaid : Prop := Claim7.holds Tryz.pinned (.plain (OpenSpec.upto sensorSteadySpec)) sensorSteadyUptoCard

/-- THE SECOND FORM's CARD OF 'garboardlaw55.SensorMiddle'. -/
def sensorMiddleUptoCard : Claim7 := { stood := { row := sensorMiddleUptoRow, standIns := [], harness := (true, "b09d3f032d4b88cff47933a8facc391d934a62fbdfde3ff0c849c3051bd3dac4"), looks := true }, kinds := [], alts := [], laidByText := true, laidKinds := [.data, .data, .data, .sentinel, .sentinel], laidTests := true, laidLooks := .later }
def SensorMiddleUptoCardSaid : Prop := Claim7.holds Tryz.pinned (.plain (OpenSpec.upto sensorMiddleSpec)) sensorMiddleUptoCard

/-- THE SECOND FORM's CARD OF 'garboardlaw55.SensorOlder'. -/
def sensorOlderUptoCard : Claim7 := { stood := { row := sensorOlderUptoRow, standIns := [], harness := (true, "b09d3f032d4b88cff47933a8facc391d934a62fbdfde3ff0c849c3051bd3dac4"), looks := true }, kinds := [], alts := [], laidByText := true, laidKinds := [.data, .data, .data, .sentinel, .sentinel], laidTests := true, laidLooks := .later }
def SensorOlderUptoCardSaid : Prop := Claim7.holds Tryz.pinned (.plain (OpenSpec.upto sensorOlderSpec)) sensorOlderUptoCard
end Rows
end Go.Proofs.YtdoailkigecmkaaGreatDoor
