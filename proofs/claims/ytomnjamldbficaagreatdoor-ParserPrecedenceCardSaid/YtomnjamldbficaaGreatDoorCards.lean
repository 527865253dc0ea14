/-
  DERIVED. GIVEN WITH THE SEED: THE CARDS: each row of YtomnjamldbficaaGreatDoorRows.lean that lists a variable, with what it lists TIED to the program's text (the seventh form; the later family's looks); each row that meets fmt, with fmt's text TOLD by the authors' own Lean function (tested against real Go, not proved from fmt's source: count such statements apart). THE CARD IS WHAT COUNTS. Prove the row's statement (the work); the ties are given (YtomnjamldbficaaGreatDoorTie.lean); close each card by the builder's one call (the guide's Derived/Test/ToyasCard.lean, 'card_holds'). Laid BY PROGRAM, IN A SANDBOX (cutbox-door.mjs). By AI agents, Wed Nov 11 2026. No macro, syntax, notation, axiom, sorry.
-/
import Derived.Test.YtomnjamldbficaaGreatDoorRows
import GoSem.ClaimSeven
namespace Go.Proofs.YtomnjamldbficaaGreatDoor
namespace Rows

/-- THE TIED CARD OF 'innkeeperlaw08.ParserMatchesReference'. -/
def parserMatchesReferenceCard : Claim7 := { stood := { row := parserMatchesReferenceRow, standIns := [], harness := (true, "8e1b041c67685480814ca452878ea91ccb3cf76c16edafe07b61de1508b20632"), looks := true }, kinds := [], alts := [], laidByText := true, laidKinds := [.data, .data, .data, .data, .sentinel, .sentinel, .pinned], laidTests := true, laidLooks := .later }
def ParserMatchesReferenceCardSaid : Prop := Claim7.holds Tryz.pinned (.plain (OpenSpec.ofChange parserMatchesReferenceSpec)) parserMatchesReferenceCard

/-- THE TIED CARD OF 'innkeeperlaw08.ParserRates'. -/
def parserRatesCard : Claim7 := { stood := { row := parserRatesRow, standIns := [], harness := (true, "8e1b041c67685480814ca452878ea91ccb3cf76c16edafe07b61de1508b20632"), looks := true }, kinds := [], alts := [], laidByText := true, laidKinds := [.data, .data, .data, .data, .sentinel, .sentinel, .pinned], laidTests := true, laidLooks := .later }
def ParserRatesCardSaid : Prop := Claim7.holds Tryz.pinned (.plain (OpenSpec.ofChange parserRatesSpec)) parserRatesCard

/-- THE TIED CARD OF 'innkeeperlaw08.ParserParts'. -/
def parserPartsCard : Claim7 := { stood := { row := parserPartsRow, standIns := [], harness := (true, "8e1b041c67685480814ca452878ea91ccb3cf76c16edafe07b61de1508b20632"), looks := true }, kinds := [], alts := [], laidByText := true, laidKinds := [.data, .data, .data, .data, .sentinel, .sentinel, .pinned], laidTests := true, laidLooks := .later }
def ParserPartsCardSaid : Prop := Claim7.holds Tryz.pinned (.plain (OpenSpec.ofChange parserPartsSpec)) parserPartsCard

/-- THE TIED CARD OF 'innkeeperlaw08.ParserBrackets'. -/
def parserBracketsCard : Claim7 := { stood := { row := parserBracketsRow, standIns := [], harness := (true, "8e1b041c67685480814ca452878ea91ccb3cf76c16edafe07b61de1508b20632"), looks := true }, kinds := [], alts := [], laidByText := true, laidKinds := [.data, .data, .data, .data, .sentinel, .sentinel, .pinned], laidTests := true, laidLooks := .later }
def ParserBracketsCardSaid : Prop := Claim7.holds Tryz.pinned (.plain (OpenSpec.ofChange parserBracketsSpec)) parserBracketsCard

/-- THE TIED CARD OF 'innkeeperlaw08.ParserPrecedence'. -/
def parserPrecedenceCard : Claim7 := { stood := { row := parserPrecedenceRow, standIns := [], harness := (true, "8e1b041c67685480814ca452878ea91ccb3cf76c16edafe07b61de1508b20632"), looks := true }, kinds := [], alts := [], laidByText := true, laidKinds := [.data, .data, .data, .data, .sentinel, .sentinel, .pinned], laidTests := true, laidLooks := .later }
def ParserPrecedenceCardSaid : Prop := Claim7.holds Tryz.pinned (.plain (OpenSpec.ofChange parserPrecedenceSpec)) parserPrecedenceCard

/-- THE TIED CARD OF 'innkeeperlaw08.ParserNumbers'. -/
def parserNumbersCard : Claim7 := { stood := { row := parserNumbersRow, standIns := [], harness := (true, "8e1b041c67685480814ca452878ea91ccb3cf76c16edafe07b61de1508b20632"), looks := true }, kinds := [], alts := [], laidByText := true, laidKinds := [.data, .data, .data, .data, .sentinel, .sentinel, .pinned], laidTests := true, laidLooks := .later }
def ParserNumbersCardSaid : Prop := Claim7.holds Tryz.pinned (.plain (OpenSpec.ofChange parserNumbersSpec)) parserNumbersCard

/-- THE TIED CARD OF 'innkeeperlaw09.PrinterExprs'. -/
def printerExprsCard : Claim7 := { stood := { row := printerExprsRow, standIns := [], harness := (true, "8e1b041c67685480814ca452878ea91ccb3cf76c16edafe07b61de1508b20632"), looks := true }, kinds := [], alts := [], laidByText := true, laidKinds := [.data, .data, .data, .data, .sentinel, .sentinel, .data, .pinned], laidTests := true, laidLooks := .later }
def PrinterExprsCardSaid : Prop := Claim7.holds Tryz.pinned (.plain (OpenSpec.ofChange printerExprsSpec)) printerExprsCard

/-- THE TIED CARD OF 'innkeeperlaw08.ParserLines'. -/
def parserLinesCard : Claim7 := { stood := { row := parserLinesRow, standIns := [], harness := (true, "8e1b041c67685480814ca452878ea91ccb3cf76c16edafe07b61de1508b20632"), looks := true }, kinds := [], alts := [], laidByText := true, laidKinds := [.data, .data, .data, .data, .sentinel, .sentinel, .pinned], laidTests := true, laidLooks := .later }
def ParserLinesCardSaid : Prop := Claim7.holds Tryz.pinned (.plain (OpenSpec.ofChange parserLinesSpec)) parserLinesCard

/-- THE TIED CARD OF 'innkeeperlaw09.PrinterOne'. -/
def printerOneCard : Claim7 := { stood := { row := printerOneRow, standIns := [], harness := (true, "8e1b041c67685480814ca452878ea91ccb3cf76c16edafe07b61de1508b20632"), looks := true }, kinds := [], alts := [], laidByText := true, laidKinds := [.data, .data, .data, .data, .sentinel, .sentinel, .data, .pinned], laidTests := true, laidLooks := .later }
def PrinterOneCardSaid : Prop := Claim7.holds Tryz.pinned (.plain (OpenSpec.ofChange printerOneSpec)) printerOneCard

/-- THE TIED CARD OF 'innkeeperlaw09.PrinterRates'. -/
def printerRatesCard : Claim7 := { stood := { row := printerRatesRow, standIns := [], harness := (true, "8e1b041c67685480814ca452878ea91ccb3cf76c16edafe07b61de1508b20632"), looks := true }, kinds := [], alts := [], laidByText := true, laidKinds := [.data, .data, .data, .data, .sentinel, .sentinel, .data, .pinned], laidTests := true, laidLooks := .later }
def PrinterRatesCardSaid : Prop := Claim7.holds Tryz.pinned (.plain (OpenSpec.ofChange printerRatesSpec)) printerRatesCard

/-- THE SECOND FORM's CARD OF 'innkeeperlaw08.ParserMatchesReference'. -/
def parserMatchesReferenceUptoCard : Claim7 := { stood := { row := parserMatchesReferenceUptoRow, standIns := [], harness := (true, "8e1b041c67685480814ca452878ea91ccb3cf76c16edafe07b61de1508b20632"), looks := true }, kinds := [], alts := [], laidByText := true, laidKinds := [.data, .data, .data, .data, .sentinel, .sentinel, .pinned], laidTests := true, laidLooks := .later }
def ParserMatchesReferenceUptoCardSaid : Prop := Claim7.holds Tryz.pinned (.plain (OpenSpec.upto parserMatchesReferenceSpec)) parserMatchesReferenceUptoCard

/-- THE SECOND FORM's CARD OF 'innkeeperlaw08.ParserRates'. -/
def parserRatesUptoCard : Claim7 := { stood := { row := parserRatesUptoRow, standIns := [], harness := (true, "8e1b041c67685480814ca452878ea91ccb3cf76c16edafe07b61de1508b20632"), looks := true }, kinds := [], alts := [], laidByText := true, laidKinds := [.data, .data, .data, .data, .sentinel, .sentinel, .pinned], laidTests := true, laidLooks := .later }
def ParserRatesUptoCardSaid : Prop := Claim7.holds Tryz.pinned (.plain (OpenSpec.upto parserRatesSpec)) parserRatesUptoCard

/-- THE SECOND FORM's CARD OF 'innkeeperlaw08.ParserParts'. -/
def parserPartsUptoCard : Claim7 := { stood := { row := parserPartsUptoRow, standIns := [], harness := (true, "8e1b041c67685480814ca452878ea91ccb3cf76c16edafe07b61de1508b20632"), looks := true }, kinds := [], alts := [], laidByText := true, laidKinds := [.data, .data, .data, .data, .sentinel, .sentinel, .pinned], laidTests := true, laidLooks := .later }
def ParserPartsUptoCardSaid : Prop := Claim7.holds Tryz.pinned (.plain (OpenSpec.upto parserPartsSpec)) parserPartsUptoCard

/-- THE SECOND FORM's CARD OF 'innkeeperlaw08.ParserBrackets'. -/
def parserBracketsUptoCard : Claim7 := { stood := { row := parserBracketsUptoRow, standIns := [], harness := (true, "8e1b041c67685480814ca452878ea91ccb3cf76c16edafe07b61de1508b20632"), looks := true }, kinds := [], alts := [], laidByText := true, laidKinds := [.data, .data, .data, .data, .sentinel, .sentinel, .pinned], laidTests := true, laidLooks := .later }
def ParserBracketsUptoCardSaid : Prop := Claim7.holds Tryz.pinned (.plain (OpenSpec.upto parserBracketsSpec)) parserBracketsUptoCard

/-- THE SECOND FORM's CARD OF 'innkeeperlaw08.ParserPrecedence'. -/
def parserPrecedenceUptoCard : Claim7 := { stood := { row := parserPrecedenceUptoRow, standIns := [], harness := (true, "8e1b041c67685480814ca452878ea91ccb3cf76c16edafe07b61de1508b20632"), looks := true }, kinds := [], alts := [], laidByText := true, laidKinds := [.data, .data, .data, .data, .sentinel, .sentinel, .pinned], laidTests := true, laidLooks := .later }
def ParserPrecedenceUptoCardSaid : Prop := Claim7.holds Tryz.pinned (.plain (OpenSpec.upto parserPrecedenceSpec)) parserPrecedenceUptoCard

/-- THE SECOND FORM's CARD OF 'innkeeperlaw08.ParserNumbers'. -/
def parserNumbersUptoCard : Claim7 := { stood := { row := parserNumbersUptoRow, standIns := [], harness := (true, "8e1b041c67685480814ca452878ea91ccb3cf76c16edafe07b61de1508b20632"), looks := true }, kinds := [], alts := [], laidByText := true, laidKinds := [.data, .data, .data, .data, .sentinel, .sentinel, .pinned], laidTests := true, laidLooks := .later }
def ParserNumbersUptoCardSaid : Prop := Claim7.holds Tryz.pinned (.plain (OpenSpec.upto parserNumbersSpec)) parserNumbersUptoCard

/-- THE SECOND FORM's CARD OF 'innkeeperlaw09.PrinterExprs'. -/
def printerExprsUptoCard : Claim7 := { stood := { row := printerExprsUptoRow, standIns := [], harness := (true, "8e1b041c67685480814ca452878ea91ccb3cf76c16edafe07b61de1508b20632"), looks := true }, kinds := [], alts := [], laidByText := true, laidKinds := [.data, .data, .data, .data, .sentinel, .sentinel, .data, .pinned], laidTests := true, laidLooks := .later }
def PrinterExprsUptoCardSaid : Prop := Claim7.holds Tryz.pinned (.plain (OpenSpec.upto printerExprsSpec)) printerExprsUptoCard

/-- THE SECOND FORM's CARD OF 'innkeeperlaw08.ParserLines'. -/
def parserLinesUptoCard : Claim7 := { stood := { row := parserLinesUptoRow, standIns := [], harness := (true, "8e1b041c67685480814ca452878ea91ccb3cf76c16edafe07b61de1508b20632"), looks := true }, kinds := [], alts := [], laidByText := true, laidKinds := [.data, .data, .data, .data, .sentinel, .sentinel, .pinned], laidTests := true, laidLooks := .later }
def ParserLinesUptoCardSaid : Prop := Claim7.holds Tryz.pinned (.plain (OpenSpec.upto parserLinesSpec)) parserLinesUptoCard

/-- THE SECOND FORM's CARD OF 'innkeeperlaw09.PrinterOne'. -/
def printerOneUptoCard : Claim7 := { stood := { row := printerOneUptoRow, standIns := [], harness := (true, "8e1b041c67685480814ca452878ea91ccb3cf76c16edafe07b61de1508b20632"), looks := true }, kinds := [], alts := [], laidByText := true, laidKinds := [.data, .data, .data, .data, .sentinel, .sentinel, .data, .pinned], laidTests := true, laidLooks := .later }
def PrinterOneUptoCardSaid : Prop := Claim7.holds Tryz.pinned (.plain (OpenSpec.upto printerOneSpec)) printerOneUptoCard

/-- THE SECOND FORM's CARD OF 'innkeeperlaw09.PrinterRates'. -/
def printerRatesUptoCard : Claim7 := { stood := { row := printerRatesUptoRow, standIns := [], harness := (true, "8e1b041c67685480814ca452878ea91ccb3cf76c16edafe07b61de1508b20632"), looks := true }, kinds := [], alts := [], laidByText := true, laidKinds := [.data, .data, .data, .data, .sentinel, .sentinel, .data, .pinned], laidTests := true, laidLooks := .later }
def PrinterRatesUptoCardSaid : Prop := Claim7.holds Tryz.pinned (.plain (OpenSpec.upto printerRatesSpec)) printerRatesUptoCard
end Rows
end Go.Proofs.YtomnjamldbficaaGreatDoor
