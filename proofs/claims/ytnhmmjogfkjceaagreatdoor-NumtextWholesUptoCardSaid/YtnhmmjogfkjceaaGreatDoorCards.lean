/-
  DERIVED. GIVEN WITH THE SEED: THE CARDS: each row of YtnhmmjogfkjceaaGreatDoorRows.lean that lists a variable, with what it lists TIED to the program's text (the seventh form; the later family's looks); each row that meets fmt, with fmt's text TOLD by the authors' own Lean function (tested against real Go, not proved from fmt's source: count such statements apart). THE CARD IS WHAT COUNTS. Prove the row's statement (the work); the ties are given (YtnhmmjogfkjceaaGreatDoorTie.lean); close each card by the builder's one call (the guide's Derived/Test/ToyasCard.lean, 'card_holds'). Laid BY PROGRAM, IN A SANDBOX (cutbox-door.mjs). By AI agents, Wed Nov 11 2026. No macro, syntax, notation, axiom, sorry.
-/
import Derived.Test.YtnhmmjogfkjceaaGreatDoorRows
import GoSem.ClaimSeven
namespace Go.Proofs.YtnhmmjogfkjceaaGreatDoor
namespace Rows

/-- THE TIED CARD OF 'brazierlaw05.LexScans'. -/
def lexScansCard : Claim7 := { stood := { row := lexScansRow, standIns := [], harness := (true, "487e6cc519c5aa928d617b2c200d8b0b305c53ac0b8ca379a629fd3b6ed1d2d1"), looks := true }, kinds := [], alts := [], laidByText := true, laidKinds := [.data, .listed, .data, .pinned], laidTests := true, laidLooks := .later }
def LexScansCardSaid : Prop := Claim7.holds Tryz.pinned (.plain (OpenSpec.ofChange lexScansSpec)) lexScansCard

/-- THE TIED CARD OF 'brazierlaw02.NumtextBack'. -/
def numtextBackCard : Claim7 := { stood := { row := numtextBackRow, standIns := [], harness := (true, "487e6cc519c5aa928d617b2c200d8b0b305c53ac0b8ca379a629fd3b6ed1d2d1"), looks := true }, kinds := [], alts := [], laidByText := true, laidKinds := [.data, .data, .data, .data, .pinned], laidTests := true, laidLooks := .later }
def NumtextBackCardSaid : Prop := Claim7.holds Tryz.pinned (.plain (OpenSpec.ofChange numtextBackSpec)) numtextBackCard

/-- THE TIED CARD OF 'brazierlaw02.NumtextWholes'. -/
def numtextWholesCard : Claim7 := { stood := { row := numtextWholesRow, standIns := [], harness := (true, "487e6cc519c5aa928d617b2c200d8b0b305c53ac0b8ca379a629fd3b6ed1d2d1"), looks := true }, kinds := [], alts := [], laidByText := true, laidKinds := [.data, .data, .data, .data, .pinned], laidTests := true, laidLooks := .later }
def NumtextWholesCardSaid : Prop := Claim7.holds Tryz.pinned (.plain (OpenSpec.ofChange numtextWholesSpec)) numtextWholesCard

/-- THE TIED CARD OF 'brazierlaw02.NumtextReads'. -/
def numtextReadsCard : Claim7 := { stood := { row := numtextReadsRow, standIns := [], harness := (true, "487e6cc519c5aa928d617b2c200d8b0b305c53ac0b8ca379a629fd3b6ed1d2d1"), looks := true }, kinds := [], alts := [], laidByText := true, laidKinds := [.data, .data, .data, .data, .pinned], laidTests := true, laidLooks := .later }
def NumtextReadsCardSaid : Prop := Claim7.holds Tryz.pinned (.plain (OpenSpec.ofChange numtextReadsSpec)) numtextReadsCard

/-- THE TIED CARD OF 'brazierlaw02.NumtextShort'. -/
def numtextShortCard : Claim7 := { stood := { row := numtextShortRow, standIns := [], harness := (true, "487e6cc519c5aa928d617b2c200d8b0b305c53ac0b8ca379a629fd3b6ed1d2d1"), looks := true }, kinds := [], alts := [], laidByText := true, laidKinds := [.data, .data, .data, .data, .sentinel, .sentinel, .pinned], laidTests := true, laidLooks := .later }
def NumtextShortCardSaid : Prop := Claim7.holds Tryz.pinned (.plain (OpenSpec.ofChange numtextShortSpec)) numtextShortCard

/-- THE SECOND FORM's CARD OF 'brazierlaw05.LexScans'. -/
def lexScansUptoCard : Claim7 := { stood := { row := lexScansUptoRow, standIns := [], harness := (true, "487e6cc519c5aa928d617b2c200d8b0b305c53ac0b8ca379a629fd3b6ed1d2d1"), looks := true }, kinds := [], alts := [], laidByText := true, laidKinds := [.data, .listed, .data, .pinned], laidTests := true, laidLooks := .later }
def LexScansUptoCardSaid : Prop := Claim7.holds Tryz.pinned (.plain (OpenSpec.upto lexScansSpec)) lexScansUptoCard

/-- THE SECOND FORM's CARD OF 'brazierlaw02.NumtextBack'. -/
def numtextBackUptoCard : Claim7 := { stood := { row := numtextBackUptoRow, standIns := [], harness := (true, "487e6cc519c5aa928d617b2c200d8b0b305c53ac0b8ca379a629fd3b6ed1d2d1"), looks := true }, kinds := [], alts := [], laidByText := true, laidKinds := [.data, .data, .data, .data, .pinned], laidTests := true, laidLooks := .later }
def NumtextBackUptoCardSaid : Prop := Claim7.holds Tryz.pinned (.plain (OpenSpec.upto numtextBackSpec)) numtextBackUptoCard

/-- THE SECOND FORM's CARD OF 'brazierlaw02.NumtextWholes'. -/
def numtextWholesUptoCard : Claim7 := { stood := { row := numtextWholesUptoRow, standIns := [], harness := (true, "487e6cc519c5aa928d617b2c200d8b0b305c53ac0b8ca379a629fd3b6ed1d2d1"), looks := true }, kinds := [], alts := [], laidByText := true, laidKinds := [.data, .data, .data, .data, .pinned], laidTests := true, laidLooks := .later }
def NumtextWholesUptoCardSaid : Prop := Claim7.holds Tryz.pinned (.plain (OpenSpec.upto numtextWholesSpec)) numtextWholesUptoCard

/-- THE SECOND FORM's CARD OF 'brazierlaw02.NumtextReads'. -/
def numtextReadsUptoCard : Claim7 := { stood := { row := numtextReadsUptoRow, standIns := [], harness := (true, "487e6cc519c5aa928d617b2c200d8b0b305c53ac0b8ca379a629fd3b6ed1d2d1"), looks := true }, kinds := [], alts := [], laidByText := true, laidKinds := [.data, .data, .data, .data, .pinned], laidTests := true, laidLooks := .later }
def NumtextReadsUptoCardSaid : Prop := Claim7.holds Tryz.pinned (.plain (OpenSpec.upto numtextReadsSpec)) numtextReadsUptoCard

/-- THE SECOND FORM's CARD OF 'brazierlaw02.NumtextShort'. -/
def numtextShortUptoCard : Claim7 := { stood := { row := numtextShortUptoRow, standIns := [], harness := (true, "487e6cc519c5aa928d617b2c200d8b0b305c53ac0b8ca379a629fd3b6ed1d2d1"), looks := true }, kinds := [], alts := [], laidByText := true, laidKinds := [.data, .data, .data, .data, .sentinel, .sentinel, .pinned], laidTests := true, laidLooks := .later }
def NumtextShortUptoCardSaid : Prop := Claim7.holds Tryz.pinned (.plain (OpenSpec.upto numtextShortSpec)) numtextShortUptoCard
end Rows
end Go.Proofs.YtnhmmjogfkjceaaGreatDoor
