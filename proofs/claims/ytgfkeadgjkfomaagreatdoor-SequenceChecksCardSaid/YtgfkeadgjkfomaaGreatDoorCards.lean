/-
  DERIVED. GIVEN WITH THE SEED: THE CARDS: each row of YtgfkeadgjkfomaaGreatDoorRows.lean that lists a variable, with what it lists TIED to the program's text (the seventh form; the later family's looks); each row that meets fmt, with fmt's text TOLD by the authors' own Lean function (tested against real Go, not proved from fmt's source: count such statements apart). THE CARD IS WHAT COUNTS. Prove the row's statement (the work); the ties are given (YtgfkeadgjkfomaaGreatDoorTie.lean); close each card by the builder's one call (the guide's Derived/Test/ToyasCard.lean, 'card_holds'). Laid BY PROGRAM, IN A SANDBOX (cutbox-door.mjs). By AI agents, Wed Nov 11 2026. No macro, syntax, notation, axiom, sorry.
-/
import Derived.Test.YtgfkeadgjkfomaaGreatDoorRows
import GoSem.ClaimSeven
namespace Go.Proofs.YtgfkeadgjkfomaaGreatDoor
namespace Rows

/-- THE TIED CARD OF 'garboardlaw51.SequenceStates'. -/
def sequenceStatesCard : Claim7 := { stood := { row := sequenceStatesRow, standIns := [], harness := (true, "05139ef9cf966f2bf98041ee8e7f9377c3b9a9902780016541a7b5bf8c146cd6"), looks := true }, kinds := [], alts := [], laidByText := true, laidKinds := [.data, .data, .data, .sentinel, .sentinel], laidTests := true, laidLooks := .later }
def SequenceStatesCardSaid : Prop := Claim7.holds Tryz.pinned (.plain (OpenSpec.ofChange sequenceStatesSpec)) sequenceStatesCard

/-- THE TIED CARD OF 'garboardlaw51.SequenceOrders'. -/
def sequenceOrdersCard : Claim7 := { stood := { row := sequenceOrdersRow, standIns := [], harness := (true, "05139ef9cf966f2bf98041ee8e7f9377c3b9a9902780016541a7b5bf8c146cd6"), looks := true }, kinds := [], alts := [], laidByText := true, laidKinds := [.data, .data, .data, .sentinel, .sentinel], laidTests := true, laidLooks := .later }
def SequenceOrdersCardSaid : Prop := Claim7.holds Tryz.pinned (.plain (OpenSpec.ofChange sequenceOrdersSpec)) sequenceOrdersCard

/-- THE TIED CARD OF 'garboardlaw51.SequenceChecks'. -/
def sequenceChecksCard : Claim7 := { stood := { row := sequenceChecksRow, standIns := [], harness := (true, "05139ef9cf966f2bf98041ee8e7f9377c3b9a9902780016541a7b5bf8c146cd6"), looks := true }, kinds := [], alts := [], laidByText := true, laidKinds := [.data, .data, .data, .sentinel, .sentinel], laidTests := true, laidLooks := .later }
def SequenceChecksCardSaid : Prop := Claim7.holds Tryz.pinned (.plain (OpenSpec.ofChange sequenceChecksSpec)) sequenceChecksCard

/-- THE TIED CARD OF 'garboardlaw51.SequenceEither'. -/
def sequenceEitherCard : Claim7 := { stood := { row := sequenceEitherRow, standIns := [], harness := (true, "05139ef9cf966f2bf98041ee8e7f9377c3b9a9902780016541a7b5bf8c146cd6"), looks := true }, kinds := [], alts := [], laidByText := true, laidKinds := [.data, .data, .data, .sentinel, .sentinel], laidTests := true, laidLooks := .later }
def SequenceEitherCardSaid : Prop := Claim7.holds Tryz.pinned (.plain (OpenSpec.ofChange sequenceEitherSpec)) sequenceEitherCard

/-- THE TIED CARD OF 'garboardlaw51.SequenceFree'. -/
def sequenceFreeCard : Claim7 := { stood := { row := sequenceFreeRow, standIns := [], harness := (true, "05139ef9cf966f2bf98041ee8e7f9377c3b9a9902780016541a7b5bf8c146cd6"), looks := true }, kinds := [], alts := [], laidByText := true, laidKinds := [.data, .data, .data, .sentinel, .sentinel], laidTests := true, laidLooks := .later }
def SequenceFreeCardSaid : Prop := Claim7.holds Tryz.pinned (.plain (OpenSpec.ofChange sequenceFreeSpec)) sequenceFreeCard

/-- THE TIED CARD OF 'garboardlaw51.SequenceKeeps'. -/
def sequenceKeepsCard : Claim7 := { stood := { row := sequenceKeepsRow, standIns := [], harness := (true, "05139ef9cf966f2bf98041ee8e7f9377c3b9a9902780016541a7b5bf8c146cd6"), looks := true }, kinds := [], alts := [], laidByText := true, laidKinds := [.data, .data, .data, .sentinel, .sentinel], laidTests := true, laidLooks := .later }
def SequenceKeepsCardSaid : Prop := Claim7.holds Tryz.pinned (.plain (OpenSpec.ofChange sequenceKeepsSpec)) sequenceKeepsCard

/-- THE TIED CARD OF 'garboardlaw51.SequenceJoins'. -/
def sequenceJoinsCard : Claim7 := { stood := { row := sequenceJoinsRow, standIns := [], harness := (true, "05139ef9cf966f2bf98041ee8e7f9377c3b9a9902780016541a7b5bf8c146cd6"), looks := true }, kinds := [], alts := [], laidByText := true, laidKinds := [.data, .data, .data, .sentinel, .sentinel], laidTests := true, laidLooks := .later }
def SequenceJoinsCardSaid : Prop := Claim7.holds Tryz.pinned (.plain (OpenSpec.ofChange sequenceJoinsSpec)) sequenceJoinsCard

/-- THE SECOND FORM's CARD OF 'garboardlaw51.SequenceStates'. -/
def sequenceStatesUptoCard : Claim7 := { stood := { row := sequenceStatesUptoRow, standIns := [], harness := (true, "05139ef9cf966f2bf98041ee8e7f9377c3b9a9902780016541a7b5bf8c146cd6"), looks := true }, kinds := [], alts := [], laidByText := true, laidKinds := [.data, .data, .data, .sentinel, .sentinel], laidTests := true, laidLooks := .later }
def SequenceStatesUptoCardSaid : Prop := Claim7.holds Tryz.pinned (.plain (OpenSpec.upto sequenceStatesSpec)) sequenceStatesUptoCard

/-- THE SECOND FORM's CARD OF 'garboardlaw51.SequenceOrders'. -/
def sequenceOrdersUptoCard : Claim7 := { stood := { row := sequenceOrdersUptoRow, standIns := [], harness := (true, "05139ef9cf966f2bf98041ee8e7f9377c3b9a9902780016541a7b5bf8c146cd6"), looks := true }, kinds := [], alts := [], laidByText := true, laidKinds := [.data, .data, .data, .sentinel, .sentinel], laidTests := true, laidLooks := .later }
def SequenceOrdersUptoCardSaid : Prop := Claim7.holds Tryz.pinned (.plain (OpenSpec.upto sequenceOrdersSpec)) sequenceOrdersUptoCard

/-- THE SECOND FORM's CARD OF 'garboardlaw51.SequenceChecks'. -/
def sequenceChecksUptoCard : Claim7 := { stood := { row := sequenceChecksUptoRow, standIns := [], harness := (true, "05139ef9cf966f2bf98041ee8e7f9377c3b9a9902780016541a7b5bf8c146cd6"), looks := true }, kinds := [], alts := [], laidByText := true, laidKinds := [.data, .data, .data, .sentinel, .sentinel], laidTests := true, laidLooks := .later }
def SequenceChecksUptoCardSaid : Prop := Claim7.holds Tryz.pinned (.plain (OpenSpec.upto sequenceChecksSpec)) sequenceChecksUptoCard

/-- THE SECOND FORM's CARD OF 'garboardlaw51.SequenceEither'. -/
def sequenceEitherUptoCard : Claim7 := { stood := { row := sequenceEitherUptoRow, standIns := [], harness := (true, "05139ef9cf966f2bf98041ee8e7f9377c3b9a9902780016541a7b5bf8c146cd6"), looks := true }, kinds := [], alts := [], laidByText := true, laidKinds := [.data, .data, .data, .sentinel, .sentinel], laidTests := true, laidLooks := .later }
def SequenceEitherUptoCardSaid : Prop := Claim7.holds Tryz.pinned (.plain (OpenSpec.upto sequenceEitherSpec)) sequenceEitherUptoCard

/-- THE SECOND FORM's CARD OF 'garboardlaw51.SequenceFree'. -/
def sequenceFreeUptoCard : Claim7 := { stood := { row := sequenceFreeUptoRow, standIns := [], harness := (true, "05139ef9cf966f2bf98041ee8e7f9377c3b9a9902780016541a7b5bf8c146cd6"), looks := true }, kinds := [], alts := [], laidByText := true, laidKinds := [.data, .data, .data, .sentinel, .sentinel], laidTests := true, laidLooks := .later }
def SequenceFreeUptoCardSaid : Prop := Claim7.holds Tryz.pinned (.plain (OpenSpec.upto sequenceFreeSpec)) sequenceFreeUptoCard

/-- THE SECOND FORM's CARD OF 'garboardlaw51.SequenceKeeps'. -/
def sequenceKeepsUptoCard : Claim7 := { stood := { row := sequenceKeepsUptoRow, standIns := [], harness := (true, "05139ef9cf966f2bf98041ee8e7f9377c3b9a9902780016541a7b5bf8c146cd6"), looks := true }, kinds := [], alts := [], laidByText := true, laidKinds := [.data, .data, .data, .sentinel, .sentinel], laidTests := true, laidLooks := .later }
def SequenceKeepsUptoCardSaid : Prop := Claim7.holds Tryz.pinned (.plain (OpenSpec.upto sequenceKeepsSpec)) sequenceKeepsUptoCard

/-- THE SECOND FORM's CARD OF 'garboardlaw51.SequenceJoins'. -/
def sequenceJoinsUptoCard : Claim7 := { stood := { row := sequenceJoinsUptoRow, standIns := [], harness := (true, "05139ef9cf966f2bf98041ee8e7f9377c3b9a9902780016541a7b5bf8c146cd6"), looks := true }, kinds := [], alts := [], laidByText := true, laidKinds := [.data, .data, .data, .sentinel, .sentinel], laidTests := true, laidLooks := .later }
def SequenceJoinsUptoCardSaid : Prop := Claim7.holds Tryz.pinned (.plain (OpenSpec.upto sequenceJoinsSpec)) sequenceJoinsUptoCard
end Rows
end Go.Proofs.YtgfkeadgjkfomaaGreatDoor
