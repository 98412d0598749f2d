/-
  DERIVED. GIVEN WITH THE SEED: THE CARDS: each row of YtnhmmjogfkjceaaDoorRows.lean that lists a variable, with what it lists TIED to the program's text (the seventh form; the later family's looks); each row that meets fmt, with fmt's text TOLD by the authors' own Lean function (tested against real Go, not proved from fmt's source: count such statements apart). THE CARD IS WHAT COUNTS. Prove the row's statement (the work); the ties are given (YtnhmmjogfkjceaaDoorTie.lean); close each card by the builder's one call (the guide's Derived/Test/ToyasCard.lean, 'card_holds'). Laid BY PROGRAM, IN A SANDBOX (cutbox-door.mjs). By AI agents, Wed Nov 11 2026. No macro, syntax, notation, axiom, sorry.
-/
import Derived.Test.YtnhmmjogfkjceaaDoorRows
import GoSem.ClaimSeven
namespace Go.Proofs.YtnhmmjogfkjceaaDoor
namespace Rows

/-- THE TIED CARD OF 'brazierlaw05.LexTiles'. -/
def lexTilesCard : Claim7 := { stood := { row := lexTilesRow, standIns := [], harness := (true, "982909650c5a8ae5fd0c6d86c88f86cd924c879cc95fdd9c14505682b87d78e3"), looks := false }, kinds := [], alts := [], laidByText := true, laidKinds := [.data, .listed, .data, .pinned], laidTests := true, laidLooks := .later }
def LexTilesCardSaid : Prop := Claim7.holds Tryd.pinned (.plain (OpenSpec.ofChange lexTilesSpec)) lexTilesCard

/-- THE TIED CARD OF 'brazierlaw05.LexAgain'. -/
def lexAgainCard : Claim7 := { stood := { row := lexAgainRow, standIns := [], harness := (true, "982909650c5a8ae5fd0c6d86c88f86cd924c879cc95fdd9c14505682b87d78e3"), looks := false }, kinds := [], alts := [], laidByText := true, laidKinds := [.data, .listed, .data, .pinned], laidTests := true, laidLooks := .later }
def LexAgainCardSaid : Prop := Claim7.holds Tryd.pinned (.plain (OpenSpec.ofChange lexAgainSpec)) lexAgainCard

/-- THE TIED CARD OF 'brazierlaw05.LexParts'. -/
def lexPartsCard : Claim7 := { stood := { row := lexPartsRow, standIns := [], harness := (true, "982909650c5a8ae5fd0c6d86c88f86cd924c879cc95fdd9c14505682b87d78e3"), looks := false }, kinds := [], alts := [], laidByText := true, laidKinds := [.data, .listed, .data, .pinned], laidTests := true, laidLooks := .later }
def LexPartsCardSaid : Prop := Claim7.holds Tryd.pinned (.plain (OpenSpec.ofChange lexPartsSpec)) lexPartsCard

/-- THE TIED CARD OF 'brazierlaw05.LexStrings'. -/
def lexStringsCard : Claim7 := { stood := { row := lexStringsRow, standIns := [], harness := (true, "982909650c5a8ae5fd0c6d86c88f86cd924c879cc95fdd9c14505682b87d78e3"), looks := false }, kinds := [], alts := [], laidByText := true, laidKinds := [.data, .listed, .data, .pinned], laidTests := true, laidLooks := .later }
def LexStringsCardSaid : Prop := Claim7.holds Tryd.pinned (.plain (OpenSpec.ofChange lexStringsSpec)) lexStringsCard

/-- THE TIED CARD OF 'brazierlaw05.LexWords'. -/
def lexWordsCard : Claim7 := { stood := { row := lexWordsRow, standIns := [], harness := (true, "982909650c5a8ae5fd0c6d86c88f86cd924c879cc95fdd9c14505682b87d78e3"), looks := false }, kinds := [], alts := [], laidByText := true, laidKinds := [.data, .listed, .data, .pinned], laidTests := true, laidLooks := .later }
def LexWordsCardSaid : Prop := Claim7.holds Tryd.pinned (.plain (OpenSpec.ofChange lexWordsSpec)) lexWordsCard

/-- THE TIED CARD OF 'brazierlaw02.NumtextBlanks'. -/
def numtextBlanksCard : Claim7 := { stood := { row := numtextBlanksRow, standIns := [], harness := (true, "982909650c5a8ae5fd0c6d86c88f86cd924c879cc95fdd9c14505682b87d78e3"), looks := false }, kinds := [], alts := [], laidByText := true, laidKinds := [.data, .data, .data, .data, .pinned], laidTests := true, laidLooks := .later }
def NumtextBlanksCardSaid : Prop := Claim7.holds Tryd.pinned (.plain (OpenSpec.ofChange numtextBlanksSpec)) numtextBlanksCard

/-- THE TIED CARD OF 'brazierlaw02.NumtextPoints'. -/
def numtextPointsCard : Claim7 := { stood := { row := numtextPointsRow, standIns := [], harness := (true, "982909650c5a8ae5fd0c6d86c88f86cd924c879cc95fdd9c14505682b87d78e3"), looks := false }, kinds := [], alts := [], laidByText := true, laidKinds := [.data, .data, .data, .data, .pinned], laidTests := true, laidLooks := .later }
def NumtextPointsCardSaid : Prop := Claim7.holds Tryd.pinned (.plain (OpenSpec.ofChange numtextPointsSpec)) numtextPointsCard

/-- THE SECOND FORM's CARD OF 'brazierlaw05.LexTiles'. -/
def lexTilesUptoCard : Claim7 := { stood := { row := lexTilesUptoRow, standIns := [], harness := (true, "982909650c5a8ae5fd0c6d86c88f86cd924c879cc95fdd9c14505682b87d78e3"), looks := false }, kinds := [], alts := [], laidByText := true, laidKinds := [.data, .listed, .data, .pinned], laidTests := true, laidLooks := .later }
def LexTilesUptoCardSaid : Prop := Claim7.holds Tryd.pinned (.plain (OpenSpec.upto lexTilesSpec)) lexTilesUptoCard

/-- THE SECOND FORM's CARD OF 'brazierlaw05.LexAgain'. -/
def lexAgainUptoCard : Claim7 := { stood := { row := lexAgainUptoRow, standIns := [], harness := (true, "982909650c5a8ae5fd0c6d86c88f86cd924c879cc95fdd9c14505682b87d78e3"), looks := false }, kinds := [], alts := [], laidByText := true, laidKinds := [.data, .listed, .data, .pinned], laidTests := true, laidLooks := .later }
def LexAgainUptoCardSaid : Prop := Claim7.holds Tryd.pinned (.plain (OpenSpec.upto lexAgainSpec)) lexAgainUptoCard

/-- THE SECOND FORM's CARD OF 'brazierlaw05.LexParts'. -/
def lexPartsUptoCard : Claim7 := { stood := { row := lexPartsUptoRow, standIns := [], harness := (true, "982909650c5a8ae5fd0c6d86c88f86cd924c879cc95fdd9c14505682b87d78e3"), looks := false }, kinds := [], alts := [], laidByText := true, laidKinds := [.data, .listed, .data, .pinned], laidTests := true, laidLooks := .later }
def LexPartsUptoCardSaid : Prop := Claim7.holds Tryd.pinned (.plain (OpenSpec.upto lexPartsSpec)) lexPartsUptoCard

/-- THE SECOND FORM's CARD OF 'brazierlaw05.LexStrings'. -/
def lexStringsUptoCard : Claim7 := { stood := { row := lexStringsUptoRow, standIns := [], harness := (true, "982909650c5a8ae5fd0c6d86c88f86cd924c879cc95fdd9c14505682b87d78e3"), looks := false }, kinds := [], alts := [], laidByText := true, laidKinds := [.data, .listed, .data, .pinned], laidTests := true, laidLooks := .later }
def LexStringsUptoCardSaid : Prop := Claim7.holds Tryd.pinned (.plain (OpenSpec.upto lexStringsSpec)) lexStringsUptoCard

/-- THE SECOND FORM's CARD OF 'brazierlaw05.LexWords'. -/
def lexWordsUptoCard : Claim7 := { stood := { row := lexWordsUptoRow, standIns := [], harness := (true, "982909650c5a8ae5fd0c6d86c88f86cd924c879cc95fdd9c14505682b87d78e3"), looks := false }, kinds := [], alts := [], laidByText := true, laidKinds := [.data, .listed, .data, .pinned], laidTests := true, laidLooks := .later }
def LexWordsUptoCardSaid : Prop := Claim7.holds Tryd.pinned (.plain (OpenSpec.upto lexWordsSpec)) lexWordsUptoCard

/-- THE SECOND FORM's CARD OF 'brazierlaw02.NumtextBlanks'. -/
def numtextBlanksUptoCard : Claim7 := { stood := { row := numtextBlanksUptoRow, standIns := [], harness := (true, "982909650c5a8ae5fd0c6d86c88f86cd924c879cc95fdd9c14505682b87d78e3"), looks := false }, kinds := [], alts := [], laidByText := true, laidKinds := [.data, .data, .data, .data, .pinned], laidTests := true, laidLooks := .later }
def NumtextBlanksUptoCardSaid : Prop := Claim7.holds Tryd.pinned (.plain (OpenSpec.upto numtextBlanksSpec)) numtextBlanksUptoCard

/-- THE SECOND FORM's CARD OF 'brazierlaw02.NumtextPoints'. -/
def numtextPointsUptoCard : Claim7 := { stood := { row := numtextPointsUptoRow, standIns := [], harness := (true, "982909650c5a8ae5fd0c6d86c88f86cd924c879cc95fdd9c14505682b87d78e3"), looks := false }, kinds := [], alts := [], laidByText := true, laidKinds := [.data, .data, .data, .data, .pinned], laidTests := true, laidLooks := .later }
def NumtextPointsUptoCardSaid : Prop := Claim7.holds Tryd.pinned (.plain (OpenSpec.upto numtextPointsSpec)) numtextPointsUptoCard
end Rows
end Go.Proofs.YtnhmmjogfkjceaaDoor
