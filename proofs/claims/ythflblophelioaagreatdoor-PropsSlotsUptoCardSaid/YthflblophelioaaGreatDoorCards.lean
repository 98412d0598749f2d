/-
  DERIVED. GIVEN WITH THE SEED: THE CARDS: each row of YthflblophelioaaGreatDoorRows.lean that lists a variable, with what it lists TIED to the program's text (the seventh form; the later family's looks); each row that meets fmt, with fmt's text TOLD by the authors' own Lean function (tested against real Go, not proved from fmt's source: count such statements apart). THE CARD IS WHAT COUNTS. Prove the row's statement (the work); the ties are given (YthflblophelioaaGreatDoorTie.lean); close each card by the builder's one call (the guide's Derived/Test/ToyasCard.lean, 'card_holds'). Laid BY PROGRAM, IN A SANDBOX (cutbox-door.mjs). By AI agents, Wed Nov 11 2026. No macro, syntax, notation, axiom, sorry.
-/
import Derived.Test.YthflblophelioaaGreatDoorRows
import GoSem.ClaimSeven
namespace Go.Proofs.YthflblophelioaaGreatDoor
namespace Rows

/-- THE TIED CARD OF 'brazierlaw14.PropsAll'. -/
def propsAllCard : Claim7 := { stood := { row := propsAllRow, standIns := [], harness := (true, "9fde3ded916d87acbcf0e1eb18390f4c918ece287dad746dd6e272d829c19e6c"), looks := true }, kinds := [], alts := [], laidByText := true, laidKinds := [.data, .data, .data, .sentinel, .sentinel], laidTests := true, laidLooks := .later }
def PropsAllCardSaid : Prop := Claim7.holds Tryz.pinned (.plain (OpenSpec.ofChange propsAllSpec)) propsAllCard

/-- THE TIED CARD OF 'brazierlaw14.PropsShut'. -/
def propsShutCard : Claim7 := { stood := { row := propsShutRow, standIns := [], harness := (true, "9fde3ded916d87acbcf0e1eb18390f4c918ece287dad746dd6e272d829c19e6c"), looks := true }, kinds := [], alts := [], laidByText := true, laidKinds := [.data, .data, .data, .sentinel, .sentinel], laidTests := true, laidLooks := .later }
def PropsShutCardSaid : Prop := Claim7.holds Tryz.pinned (.plain (OpenSpec.ofChange propsShutSpec)) propsShutCard

/-- THE TIED CARD OF 'brazierlaw14.PropsRings'. -/
def propsRingsCard : Claim7 := { stood := { row := propsRingsRow, standIns := [], harness := (true, "9fde3ded916d87acbcf0e1eb18390f4c918ece287dad746dd6e272d829c19e6c"), looks := true }, kinds := [], alts := [], laidByText := true, laidKinds := [.data, .data, .data, .sentinel, .sentinel], laidTests := true, laidLooks := .later }
def PropsRingsCardSaid : Prop := Claim7.holds Tryz.pinned (.plain (OpenSpec.ofChange propsRingsSpec)) propsRingsCard

/-- THE TIED CARD OF 'brazierlaw14.PropsGiven'. -/
def propsGivenCard : Claim7 := { stood := { row := propsGivenRow, standIns := [], harness := (true, "9fde3ded916d87acbcf0e1eb18390f4c918ece287dad746dd6e272d829c19e6c"), looks := true }, kinds := [], alts := [], laidByText := true, laidKinds := [.data, .data, .data, .sentinel, .sentinel], laidTests := true, laidLooks := .later }
def PropsGivenCardSaid : Prop := Claim7.holds Tryz.pinned (.plain (OpenSpec.ofChange propsGivenSpec)) propsGivenCard

/-- THE TIED CARD OF 'brazierlaw14.PropsFixed'. -/
def propsFixedCard : Claim7 := { stood := { row := propsFixedRow, standIns := [], harness := (true, "9fde3ded916d87acbcf0e1eb18390f4c918ece287dad746dd6e272d829c19e6c"), looks := true }, kinds := [], alts := [], laidByText := true, laidKinds := [.data, .data, .data, .sentinel, .sentinel], laidTests := true, laidLooks := .later }
def PropsFixedCardSaid : Prop := Claim7.holds Tryz.pinned (.plain (OpenSpec.ofChange propsFixedSpec)) propsFixedCard

/-- THE TIED CARD OF 'brazierlaw14.PropsKeys'. -/
def propsKeysCard : Claim7 := { stood := { row := propsKeysRow, standIns := [], harness := (true, "9fde3ded916d87acbcf0e1eb18390f4c918ece287dad746dd6e272d829c19e6c"), looks := true }, kinds := [], alts := [], laidByText := true, laidKinds := [.data, .data, .data, .sentinel, .sentinel], laidTests := true, laidLooks := .later }
def PropsKeysCardSaid : Prop := Claim7.holds Tryz.pinned (.plain (OpenSpec.ofChange propsKeysSpec)) propsKeysCard

/-- THE TIED CARD OF 'brazierlaw14.PropsAbove'. -/
def propsAboveCard : Claim7 := { stood := { row := propsAboveRow, standIns := [], harness := (true, "9fde3ded916d87acbcf0e1eb18390f4c918ece287dad746dd6e272d829c19e6c"), looks := true }, kinds := [], alts := [], laidByText := true, laidKinds := [.data, .data, .data, .sentinel, .sentinel], laidTests := true, laidLooks := .later }
def PropsAboveCardSaid : Prop := Claim7.holds Tryz.pinned (.plain (OpenSpec.ofChange propsAboveSpec)) propsAboveCard

/-- THE TIED CARD OF 'brazierlaw14.PropsSlots'. -/
def propsSlotsCard : Claim7 := { stood := { row := propsSlotsRow, standIns := [], harness := (true, "9fde3ded916d87acbcf0e1eb18390f4c918ece287dad746dd6e272d829c19e6c"), looks := true }, kinds := [], alts := [], laidByText := true, laidKinds := [.data, .data, .data, .sentinel, .sentinel], laidTests := true, laidLooks := .later }
def PropsSlotsCardSaid : Prop := Claim7.holds Tryz.pinned (.plain (OpenSpec.ofChange propsSlotsSpec)) propsSlotsCard

/-- THE SECOND FORM's CARD OF 'brazierlaw14.PropsAll'. -/
def propsAllUptoCard : Claim7 := { stood := { row := propsAllUptoRow, standIns := [], harness := (true, "9fde3ded916d87acbcf0e1eb18390f4c918ece287dad746dd6e272d829c19e6c"), looks := true }, kinds := [], alts := [], laidByText := true, laidKinds := [.data, .data, .data, .sentinel, .sentinel], laidTests := true, laidLooks := .later }
def PropsAllUptoCardSaid : Prop := Claim7.holds Tryz.pinned (.plain (OpenSpec.upto propsAllSpec)) propsAllUptoCard

/-- THE SECOND FORM's CARD OF 'brazierlaw14.PropsShut'. -/
def propsShutUptoCard : Claim7 := { stood := { row := propsShutUptoRow, standIns := [], harness := (true, "9fde3ded916d87acbcf0e1eb18390f4c918ece287dad746dd6e272d829c19e6c"), looks := true }, kinds := [], alts := [], laidByText := true, laidKinds := [.data, .data, .data, .sentinel, .sentinel], laidTests := true, laidLooks := .later }
def PropsShutUptoCardSaid : Prop := Claim7.holds Tryz.pinned (.plain (OpenSpec.upto propsShutSpec)) propsShutUptoCard

/-- THE SECOND FORM's CARD OF 'brazierlaw14.PropsRings'. -/
def propsRingsUptoCard : Claim7 := { stood := { row := propsRingsUptoRow, standIns := [], harness := (true, "9fde3ded916d87acbcf0e1eb18390f4c918ece287dad746dd6e272d829c19e6c"), looks := true }, kinds := [], alts := [], laidByText := true, laidKinds := [.data, .data, .data, .sentinel, .sentinel], laidTests := true, laidLooks := .later }
def PropsRingsUptoCardSaid : Prop := Claim7.holds Tryz.pinned (.plain (OpenSpec.upto propsRingsSpec)) propsRingsUptoCard

/-- THE SECOND FORM's CARD OF 'brazierlaw14.PropsGiven'. -/
def propsGivenUptoCard : Claim7 := { stood := { row := propsGivenUptoRow, standIns := [], harness := (true, "9fde3ded916d87acbcf0e1eb18390f4c918ece287dad746dd6e272d829c19e6c"), looks := true }, kinds := [], alts := [], laidByText := true, laidKinds := [.data, .data, .data, .sentinel, .sentinel], laidTests := true, laidLooks := .later }
def PropsGivenUptoCardSaid : Prop := Claim7.holds Tryz.pinned (.plain (OpenSpec.upto propsGivenSpec)) propsGivenUptoCard

/-- THE SECOND FORM's CARD OF 'brazierlaw14.PropsFixed'. -/
def propsFixedUptoCard : Claim7 := { stood := { row := propsFixedUptoRow, standIns := [], harness := (true, "9fde3ded916d87acbcf0e1eb18390f4c918ece287dad746dd6e272d829c19e6c"), looks := true }, kinds := [], alts := [], laidByText := true, laidKinds := [.data, .data, .data, .sentinel, .sentinel], laidTests := true, laidLooks := .later }
def PropsFixedUptoCardSaid : Prop := Claim7.holds Tryz.pinned (.plain (OpenSpec.upto propsFixedSpec)) propsFixedUptoCard

/-- THE SECOND FORM's CARD OF 'brazierlaw14.PropsKeys'. -/
def propsKeysUptoCard : Claim7 := { stood := { row := propsKeysUptoRow, standIns := [], harness := (true, "9fde3ded916d87acbcf0e1eb18390f4c918ece287dad746dd6e272d829c19e6c"), looks := true }, kinds := [], alts := [], laidByText := true, laidKinds := [.data, .data, .data, .sentinel, .sentinel], laidTests := true, laidLooks := .later }
def PropsKeysUptoCardSaid : Prop := Claim7.holds Tryz.pinned (.plain (OpenSpec.upto propsKeysSpec)) propsKeysUptoCard

/-- THE SECOND FORM's CARD OF 'brazierlaw14.PropsAbove'. -/
def propsAboveUptoCard : Claim7 := { stood := { row := propsAboveUptoRow, standIns := [], harness := (true, "9fde3ded916d87acbcf0e1eb18390f4c918ece287dad746dd6e272d829c19e6c"), looks := true }, kinds := [], alts := [], laidByText := true, laidKinds := [.data, .data, .data, .sentinel, .sentinel], laidTests := true, laidLooks := .later }
def PropsAboveUptoCardSaid : Prop := Claim7.holds Tryz.pinned (.plain (OpenSpec.upto propsAboveSpec)) propsAboveUptoCard

/-- THE SECOND FORM's CARD OF 'brazierlaw14.PropsSlots'. -/
def propsSlotsUptoCard : Claim7 := { stood := { row := propsSlotsUptoRow, standIns := [], harness := (true, "9fde3ded916d87acbcf0e1eb18390f4c918ece287dad746dd6e272d829c19e6c"), looks := true }, kinds := [], alts := [], laidByText := true, laidKinds := [.data, .data, .data, .sentinel, .sentinel], laidTests := true, laidLooks := .later }
def PropsSlotsUptoCardSaid : Prop := Claim7.holds Tryz.pinned (.plain (OpenSpec.upto propsSlotsSpec)) propsSlotsUptoCard
end Rows
end Go.Proofs.YthflblophelioaaGreatDoor
