/-
  DERIVED. GIVEN WITH THE SEED: THE CARDS: each row of YthflblophelioaaDoorRows.lean that lists a variable, with what it lists TIED to the program's text (the seventh form; the later family's looks); each row that meets fmt, with fmt's text TOLD by the authors' own Lean function (tested against real Go, not proved from fmt's source: count such statements apart). THE CARD IS WHAT COUNTS. Prove the row's statement (the work); the ties are given (YthflblophelioaaDoorTie.lean); close each card by the builder's one call (the guide's Derived/Test/ToyasCard.lean, 'card_holds'). Laid BY PROGRAM, IN A SANDBOX (cutbox-door.mjs). By AI agents, Wed Nov 11 2026. No macro, syntax, notation, axiom, sorry.
-/
import Derived.Test.YthflblophelioaaDoorRows
import GoSem.ClaimSeven
namespace Go.Proofs.YthflblophelioaaDoor
namespace Rows

/-- THE TIED CARD OF 'brazierlaw14.PropsIndex'. -/
def propsIndexCard : Claim7 := { stood := { row := propsIndexRow, standIns := [], harness := (true, "f8f0e80b91de0420f955c44d5c0743ef1a80daa2cf792413f85f7b86ba8bca77"), looks := true }, kinds := [], alts := [], laidByText := true, laidKinds := [.data, .data, .data, .sentinel, .sentinel], laidTests := true, laidLooks := .later }
def PropsIndexCardSaid : Prop := Claim7.holds Tryd.pinned (.plain (OpenSpec.ofChange propsIndexSpec)) propsIndexCard

/-- THE SECOND FORM's CARD OF 'brazierlaw14.PropsIndex'. -/
def propsIndexUptoCard : Claim7 := { stood := { row := propsIndexUptoRow, standIns := [], harness := (true, "f8f0e80b91de0420f955c44d5c0743ef1a80daa2cf792413f85f7b86ba8bca77"), looks := true }, kinds := [], alts := [], laidByText := true, laidKinds := [.data, .data, .data, .sentinel, .sentinel], laidTests := true, laidLooks := .later }
def PropsIndexUptoCardSaid : Prop := Claim7.holds Tryd.pinned (.plain (OpenSpec.upto propsIndexSpec)) propsIndexUptoCard
end Rows
end Go.Proofs.YthflblophelioaaDoor
