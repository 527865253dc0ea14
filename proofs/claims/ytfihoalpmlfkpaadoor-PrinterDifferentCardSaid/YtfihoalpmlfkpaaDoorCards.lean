/-
  DERIVED. GIVEN WITH THE SEED: THE CARDS: each row of YtfihoalpmlfkpaaDoorRows.lean that lists a variable, with what it lists TIED to the program's text (the seventh form; the later family's looks); each row that meets fmt, with fmt's text TOLD by the authors' own Lean function (tested against real Go, not proved from fmt's source: count such statements apart). THE CARD IS WHAT COUNTS. Prove the row's statement (the work); the ties are given (YtfihoalpmlfkpaaDoorTie.lean); close each card by the builder's one call (the guide's Derived/Test/ToyasCard.lean, 'card_holds'). Laid BY PROGRAM, IN A SANDBOX (cutbox-door.mjs). By AI agents, Wed Nov 11 2026. No macro, syntax, notation, axiom, sorry.
-/
import Derived.Test.YtfihoalpmlfkpaaDoorRows
import GoSem.ClaimSeven
namespace Go.Proofs.YtfihoalpmlfkpaaDoor
namespace Rows

/-- THE TIED CARD OF 'innkeeperlaw09.PrinterMatchesReference'. -/
def printerMatchesReferenceCard : Claim7 := { stood := { row := printerMatchesReferenceRow, standIns := [], harness := (true, "0b8b33d068401105ec1f5a7135de1c09dacf095c04ec1f94db786b78cbe83be3"), looks := true }, kinds := [], alts := [], laidByText := true, laidKinds := [.data, .data, .data, .data], laidTests := true, laidLooks := .later }
def PrinterMatchesReferenceCardSaid : Prop := Claim7.holds Tryd.pinned (.plain (OpenSpec.ofChange printerMatchesReferenceSpec)) printerMatchesReferenceCard

/-- THE TIED CARD OF 'innkeeperlaw09.PrinterDifferent'. -/
def printerDifferentCard : Claim7 := { stood := { row := printerDifferentRow, standIns := [], harness := (true, "0b8b33d068401105ec1f5a7135de1c09dacf095c04ec1f94db786b78cbe83be3"), looks := true }, kinds := [], alts := [], laidByText := true, laidKinds := [.data, .data, .data, .data], laidTests := true, laidLooks := .later }
def PrinterDifferentCardSaid : Prop := Claim7.holds Tryd.pinned (.plain (OpenSpec.ofChange printerDifferentSpec)) printerDifferentCard

/-- THE TIED CARD OF 'innkeeperlaw09.PrinterParts'. -/
def printerPartsCard : Claim7 := { stood := { row := printerPartsRow, standIns := [], harness := (true, "0b8b33d068401105ec1f5a7135de1c09dacf095c04ec1f94db786b78cbe83be3"), looks := true }, kinds := [], alts := [], laidByText := true, laidKinds := [.data, .data, .data, .data], laidTests := true, laidLooks := .later }
def PrinterPartsCardSaid : Prop := Claim7.holds Tryd.pinned (.plain (OpenSpec.ofChange printerPartsSpec)) printerPartsCard

/-- THE TIED CARD OF 'innkeeperlaw09.PrinterBrackets'. -/
def printerBracketsCard : Claim7 := { stood := { row := printerBracketsRow, standIns := [], harness := (true, "0b8b33d068401105ec1f5a7135de1c09dacf095c04ec1f94db786b78cbe83be3"), looks := true }, kinds := [], alts := [], laidByText := true, laidKinds := [.data, .data, .data, .data], laidTests := true, laidLooks := .later }
def PrinterBracketsCardSaid : Prop := Claim7.holds Tryd.pinned (.plain (OpenSpec.ofChange printerBracketsSpec)) printerBracketsCard

/-- THE SECOND FORM's CARD OF 'innkeeperlaw09.PrinterMatchesReference'. -/
def printerMatchesReferenceUptoCard : Claim7 := { stood := { row := printerMatchesReferenceUptoRow, standIns := [], harness := (true, "0b8b33d068401105ec1f5a7135de1c09dacf095c04ec1f94db786b78cbe83be3"), looks := true }, kinds := [], alts := [], laidByText := true, laidKinds := [.data, .data, .data, .data], laidTests := true, laidLooks := .later }
def PrinterMatchesReferenceUptoCardSaid : Prop := Claim7.holds Tryd.pinned (.plain (OpenSpec.upto printerMatchesReferenceSpec)) printerMatchesReferenceUptoCard

/-- THE SECOND FORM's CARD OF 'innkeeperlaw09.PrinterDifferent'. -/
def printerDifferentUptoCard : Claim7 := { stood := { row := printerDifferentUptoRow, standIns := [], harness := (true, "0b8b33d068401105ec1f5a7135de1c09dacf095c04ec1f94db786b78cbe83be3"), looks := true }, kinds := [], alts := [], laidByText := true, laidKinds := [.data, .data, .data, .data], laidTests := true, laidLooks := .later }
def PrinterDifferentUptoCardSaid : Prop := Claim7.holds Tryd.pinned (.plain (OpenSpec.upto printerDifferentSpec)) printerDifferentUptoCard

/-- THE SECOND FORM's CARD OF 'innkeeperlaw09.PrinterParts'. -/
def printerPartsUptoCard : Claim7 := { stood := { row := printerPartsUptoRow, standIns := [], harness := (true, "0b8b33d068401105ec1f5a7135de1c09dacf095c04ec1f94db786b78cbe83be3"), looks := true }, kinds := [], alts := [], laidByText := true, laidKinds := [.data, .data, .data, .data], laidTests := true, laidLooks := .later }
def PrinterPartsUptoCardSaid : Prop := Claim7.holds Tryd.pinned (.plain (OpenSpec.upto printerPartsSpec)) printerPartsUptoCard

/-- THE SECOND FORM's CARD OF 'innkeeperlaw09.PrinterBrackets'. -/
def printerBracketsUptoCard : Claim7 := { stood := { row := printerBracketsUptoRow, standIns := [], harness := (true, "0b8b33d068401105ec1f5a7135de1c09dacf095c04ec1f94db786b78cbe83be3"), looks := true }, kinds := [], alts := [], laidByText := true, laidKinds := [.data, .data, .data, .data], laidTests := true, laidLooks := .later }
def PrinterBracketsUptoCardSaid : Prop := Claim7.holds Tryd.pinned (.plain (OpenSpec.upto printerBracketsSpec)) printerBracketsUptoCard
end Rows
end Go.Proofs.YtfihoalpmlfkpaaDoor
