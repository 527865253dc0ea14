/-
  DERIVED. GIVEN WITH THE SEED: THE CARDS: each row of YtnepkoepbapgeaaGreatDoorRows.lean that lists a variable, with what it lists TIED to the program's text (the seventh form; the later family's looks); each row that meets fmt, with fmt's text TOLD by the authors' own Lean function (tested against real Go, not proved from fmt's source: count such statements apart). THE CARD IS WHAT COUNTS. Prove the row's statement (the work); the ties are given (YtnepkoepbapgeaaGreatDoorTie.lean); close each card by the builder's one call (the guide's Derived/Test/ToyasCard.lean, 'card_holds'). Laid BY PROGRAM, IN A SANDBOX (cutbox-door.mjs). By AI agents, Wed Nov 11 2026. No macro, syntax, notation, axiom, sorry.
-/
import Derived.Test.YtnepkoepbapgeaaGreatDoorRows
import GoSem.ClaimSeven
namespace Go.Proofs.YtnepkoepbapgeaaGreatDoor
namespace Rows

/-- THE TIED CARD OF 'innkeeperlaw12.QuoteMatchesReference'. -/
def quoteMatchesReferenceCard : Claim7 := { stood := { row := quoteMatchesReferenceRow, standIns := [], harness := (true, "e3f1101b9de3d360ea3cb16cc163f02d3a1e1bde5426cf200f8003422e4d9c2a"), looks := true }, kinds := [], alts := [], laidByText := true, laidKinds := [.data, .data, .data, .data, .sentinel, .sentinel, .data, .pinned], laidTests := true, laidLooks := .later }
def QuoteMatchesReferenceCardSaid : Prop := Claim7.holds Tryz.pinned (.plain (OpenSpec.ofChange quoteMatchesReferenceSpec)) quoteMatchesReferenceCard

/-- THE TIED CARD OF 'innkeeperlaw12.QuoteHonest'. -/
def quoteHonestCard : Claim7 := { stood := { row := quoteHonestRow, standIns := [], harness := (true, "e3f1101b9de3d360ea3cb16cc163f02d3a1e1bde5426cf200f8003422e4d9c2a"), looks := true }, kinds := [], alts := [], laidByText := true, laidKinds := [.data, .data, .data, .data, .sentinel, .sentinel, .data, .pinned], laidTests := true, laidLooks := .later }
def QuoteHonestCardSaid : Prop := Claim7.holds Tryz.pinned (.plain (OpenSpec.ofChange quoteHonestSpec)) quoteHonestCard

/-- THE TIED CARD OF 'innkeeperlaw12.QuoteAgain'. -/
def quoteAgainCard : Claim7 := { stood := { row := quoteAgainRow, standIns := [], harness := (true, "e3f1101b9de3d360ea3cb16cc163f02d3a1e1bde5426cf200f8003422e4d9c2a"), looks := true }, kinds := [], alts := [], laidByText := true, laidKinds := [.data, .data, .data, .data, .sentinel, .sentinel, .data, .pinned], laidTests := true, laidLooks := .later }
def QuoteAgainCardSaid : Prop := Claim7.holds Tryz.pinned (.plain (OpenSpec.ofChange quoteAgainSpec)) quoteAgainCard

/-- THE TIED CARD OF 'innkeeperlaw12.QuoteChanged'. -/
def quoteChangedCard : Claim7 := { stood := { row := quoteChangedRow, standIns := [], harness := (true, "e3f1101b9de3d360ea3cb16cc163f02d3a1e1bde5426cf200f8003422e4d9c2a"), looks := true }, kinds := [], alts := [], laidByText := true, laidKinds := [.data, .data, .data, .data, .sentinel, .sentinel, .data, .pinned], laidTests := true, laidLooks := .later }
def QuoteChangedCardSaid : Prop := Claim7.holds Tryz.pinned (.plain (OpenSpec.ofChange quoteChangedSpec)) quoteChangedCard

/-- THE TIED CARD OF 'innkeeperlaw12.QuoteOrder'. -/
def quoteOrderCard : Claim7 := { stood := { row := quoteOrderRow, standIns := [], harness := (true, "e3f1101b9de3d360ea3cb16cc163f02d3a1e1bde5426cf200f8003422e4d9c2a"), looks := true }, kinds := [], alts := [], laidByText := true, laidKinds := [.data, .data, .data, .data, .sentinel, .sentinel, .data, .pinned], laidTests := true, laidLooks := .later }
def QuoteOrderCardSaid : Prop := Claim7.holds Tryz.pinned (.plain (OpenSpec.ofChange quoteOrderSpec)) quoteOrderCard

/-- THE TIED CARD OF 'innkeeperlaw12.QuoteSums'. -/
def quoteSumsCard : Claim7 := { stood := { row := quoteSumsRow, standIns := [], harness := (true, "e3f1101b9de3d360ea3cb16cc163f02d3a1e1bde5426cf200f8003422e4d9c2a"), looks := true }, kinds := [], alts := [], laidByText := true, laidKinds := [.data, .data, .data, .data, .sentinel, .sentinel, .data, .pinned], laidTests := true, laidLooks := .later }
def QuoteSumsCardSaid : Prop := Claim7.holds Tryz.pinned (.plain (OpenSpec.ofChange quoteSumsSpec)) quoteSumsCard

/-- THE TIED CARD OF 'innkeeperlaw15.VersionsMatchesReference'. -/
def versionsMatchesReferenceCard : Claim7 := { stood := { row := versionsMatchesReferenceRow, standIns := [], harness := (true, "e3f1101b9de3d360ea3cb16cc163f02d3a1e1bde5426cf200f8003422e4d9c2a"), looks := true }, kinds := [], alts := [], laidByText := true, laidKinds := [.data, .data, .data, .data, .sentinel, .sentinel, .data, .pinned], laidTests := true, laidLooks := .later }
def VersionsMatchesReferenceCardSaid : Prop := Claim7.holds Tryz.pinned (.plain (OpenSpec.ofChange versionsMatchesReferenceSpec)) versionsMatchesReferenceCard

/-- THE TIED CARD OF 'innkeeperlaw15.VersionsForce'. -/
def versionsForceCard : Claim7 := { stood := { row := versionsForceRow, standIns := [], harness := (true, "e3f1101b9de3d360ea3cb16cc163f02d3a1e1bde5426cf200f8003422e4d9c2a"), looks := true }, kinds := [], alts := [], laidByText := true, laidKinds := [.data, .data, .data, .data, .sentinel, .sentinel, .data, .pinned], laidTests := true, laidLooks := .later }
def VersionsForceCardSaid : Prop := Claim7.holds Tryz.pinned (.plain (OpenSpec.ofChange versionsForceSpec)) versionsForceCard

/-- THE TIED CARD OF 'innkeeperlaw15.VersionsPush'. -/
def versionsPushCard : Claim7 := { stood := { row := versionsPushRow, standIns := [], harness := (true, "e3f1101b9de3d360ea3cb16cc163f02d3a1e1bde5426cf200f8003422e4d9c2a"), looks := true }, kinds := [], alts := [], laidByText := true, laidKinds := [.data, .data, .data, .data, .sentinel, .sentinel, .data, .pinned], laidTests := true, laidLooks := .later }
def VersionsPushCardSaid : Prop := Claim7.holds Tryz.pinned (.plain (OpenSpec.ofChange versionsPushSpec)) versionsPushCard

/-- THE TIED CARD OF 'innkeeperlaw15.VersionsHonour'. -/
def versionsHonourCard : Claim7 := { stood := { row := versionsHonourRow, standIns := [], harness := (true, "e3f1101b9de3d360ea3cb16cc163f02d3a1e1bde5426cf200f8003422e4d9c2a"), looks := true }, kinds := [], alts := [], laidByText := true, laidKinds := [.data, .data, .data, .data, .sentinel, .sentinel, .data, .pinned], laidTests := true, laidLooks := .later }
def VersionsHonourCardSaid : Prop := Claim7.holds Tryz.pinned (.plain (OpenSpec.ofChange versionsHonourSpec)) versionsHonourCard

/-- THE TIED CARD OF 'innkeeperlaw15.VersionsOthers'. -/
def versionsOthersCard : Claim7 := { stood := { row := versionsOthersRow, standIns := [], harness := (true, "e3f1101b9de3d360ea3cb16cc163f02d3a1e1bde5426cf200f8003422e4d9c2a"), looks := true }, kinds := [], alts := [], laidByText := true, laidKinds := [.data, .data, .data, .data, .sentinel, .sentinel, .data, .pinned], laidTests := true, laidLooks := .later }
def VersionsOthersCardSaid : Prop := Claim7.holds Tryz.pinned (.plain (OpenSpec.ofChange versionsOthersSpec)) versionsOthersCard

/-- THE SECOND FORM's CARD OF 'innkeeperlaw12.QuoteMatchesReference'. -/
def quoteMatchesReferenceUptoCard : Claim7 := { stood := { row := quoteMatchesReferenceUptoRow, standIns := [], harness := (true, "e3f1101b9de3d360ea3cb16cc163f02d3a1e1bde5426cf200f8003422e4d9c2a"), looks := true }, kinds := [], alts := [], laidByText := true, laidKinds := [.data, .data, .data, .data, .sentinel, .sentinel, .data, .pinned], laidTests := true, laidLooks := .later }
def QuoteMatchesReferenceUptoCardSaid : Prop := Claim7.holds Tryz.pinned (.plain (OpenSpec.upto quoteMatchesReferenceSpec)) quoteMatchesReferenceUptoCard

/-- THE SECOND FORM's CARD OF 'innkeeperlaw12.QuoteHonest'. -/
def quoteHonestUptoCard : Claim7 := { stood := { row := quoteHonestUptoRow, standIns := [], harness := (true, "e3f1101b9de3d360ea3cb16cc163f02d3a1e1bde5426cf200f8003422e4d9c2a"), looks := true }, kinds := [], alts := [], laidByText := true, laidKinds := [.data, .data, .data, .data, .sentinel, .sentinel, .data, .pinned], laidTests := true, laidLooks := .later }
def QuoteHonestUptoCardSaid : Prop := Claim7.holds Tryz.pinned (.plain (OpenSpec.upto quoteHonestSpec)) quoteHonestUptoCard

/-- THE SECOND FORM's CARD OF 'innkeeperlaw12.QuoteAgain'. -/
def quoteAgainUptoCard : Claim7 := { stood := { row := quoteAgainUptoRow, standIns := [], harness := (true, "e3f1101b9de3d360ea3cb16cc163f02d3a1e1bde5426cf200f8003422e4d9c2a"), looks := true }, kinds := [], alts := [], laidByText := true, laidKinds := [.data, .data, .data, .data, .sentinel, .sentinel, .data, .pinned], laidTests := true, laidLooks := .later }
def QuoteAgainUptoCardSaid : Prop := Claim7.holds Tryz.pinned (.plain (OpenSpec.upto quoteAgainSpec)) quoteAgainUptoCard

/-- THE SECOND FORM's CARD OF 'innkeeperlaw12.QuoteChanged'. -/
def quoteChangedUptoCard : Claim7 := { stood := { row := quoteChangedUptoRow, standIns := [], harness := (true, "e3f1101b9de3d360ea3cb16cc163f02d3a1e1bde5426cf200f8003422e4d9c2a"), looks := true }, kinds := [], alts := [], laidByText := true, laidKinds := [.data, .data, .data, .data, .sentinel, .sentinel, .data, .pinned], laidTests := true, laidLooks := .later }
def QuoteChangedUptoCardSaid : Prop := Claim7.holds Tryz.pinned (.plain (OpenSpec.upto quoteChangedSpec)) quoteChangedUptoCard

/-- THE SECOND FORM's CARD OF 'innkeeperlaw12.QuoteOrder'. -/
def quoteOrderUptoCard : Claim7 := { stood := { row := quoteOrderUptoRow, standIns := [], harness := (true, "e3f1101b9de3d360ea3cb16cc163f02d3a1e1bde5426cf200f8003422e4d9c2a"), looks := true }, kinds := [], alts := [], laidByText := true, laidKinds := [.data, .data, .data, .data, .sentinel, .sentinel, .data, .pinned], laidTests := true, laidLooks := .later }
def QuoteOrderUptoCardSaid : Prop := Claim7.holds Tryz.pinned (.plain (OpenSpec.upto quoteOrderSpec)) quoteOrderUptoCard

/-- THE SECOND FORM's CARD OF 'innkeeperlaw12.QuoteSums'. -/
def quoteSumsUptoCard : Claim7 := { stood := { row := quoteSumsUptoRow, standIns := [], harness := (true, "e3f1101b9de3d360ea3cb16cc163f02d3a1e1bde5426cf200f8003422e4d9c2a"), looks := true }, kinds := [], alts := [], laidByText := true, laidKinds := [.data, .data, .data, .data, .sentinel, .sentinel, .data, .pinned], laidTests := true, laidLooks := .later }
def QuoteSumsUptoCardSaid : Prop := Claim7.holds Tryz.pinned (.plain (OpenSpec.upto quoteSumsSpec)) quoteSumsUptoCard

/-- THE SECOND FORM's CARD OF 'innkeeperlaw15.VersionsMatchesReference'. -/
def versionsMatchesReferenceUptoCard : Claim7 := { stood := { row := versionsMatchesReferenceUptoRow, standIns := [], harness := (true, "e3f1101b9de3d360ea3cb16cc163f02d3a1e1bde5426cf200f8003422e4d9c2a"), looks := true }, kinds := [], alts := [], laidByText := true, laidKinds := [.data, .data, .data, .data, .sentinel, .sentinel, .data, .pinned], laidTests := true, laidLooks := .later }
def VersionsMatchesReferenceUptoCardSaid : Prop := Claim7.holds Tryz.pinned (.plain (OpenSpec.upto versionsMatchesReferenceSpec)) versionsMatchesReferenceUptoCard

/-- THE SECOND FORM's CARD OF 'innkeeperlaw15.VersionsForce'. -/
def versionsForceUptoCard : Claim7 := { stood := { row := versionsForceUptoRow, standIns := [], harness := (true, "e3f1101b9de3d360ea3cb16cc163f02d3a1e1bde5426cf200f8003422e4d9c2a"), looks := true }, kinds := [], alts := [], laidByText := true, laidKinds := [.data, .data, .data, .data, .sentinel, .sentinel, .data, .pinned], laidTests := true, laidLooks := .later }
def VersionsForceUptoCardSaid : Prop := Claim7.holds Tryz.pinned (.plain (OpenSpec.upto versionsForceSpec)) versionsForceUptoCard

/-- THE SECOND FORM's CARD OF 'innkeeperlaw15.VersionsPush'. -/
def versionsPushUptoCard : Claim7 := { stood := { row := versionsPushUptoRow, standIns := [], harness := (true, "e3f1101b9de3d360ea3cb16cc163f02d3a1e1bde5426cf200f8003422e4d9c2a"), looks := true }, kinds := [], alts := [], laidByText := true, laidKinds := [.data, .data, .data, .data, .sentinel, .sentinel, .data, .pinned], laidTests := true, laidLooks := .later }
def VersionsPushUptoCardSaid : Prop := Claim7.holds Tryz.pinned (.plain (OpenSpec.upto versionsPushSpec)) versionsPushUptoCard

/-- THE SECOND FORM's CARD OF 'innkeeperlaw15.VersionsHonour'. -/
def versionsHonourUptoCard : Claim7 := { stood := { row := versionsHonourUptoRow, standIns := [], harness := (true, "e3f1101b9de3d360ea3cb16cc163f02d3a1e1bde5426cf200f8003422e4d9c2a"), looks := true }, kinds := [], alts := [], laidByText := true, laidKinds := [.data, .data, .data, .data, .sentinel, .sentinel, .data, .pinned], laidTests := true, laidLooks := .later }
def VersionsHonourUptoCardSaid : Prop := Claim7.holds Tryz.pinned (.plain (OpenSpec.upto versionsHonourSpec)) versionsHonourUptoCard

/-- THE SECOND FORM's CARD OF 'innkeeperlaw15.VersionsOthers'. -/
def versionsOthersUptoCard : Claim7 := { stood := { row := versionsOthersUptoRow, standIns := [], harness := (true, "e3f1101b9de3d360ea3cb16cc163f02d3a1e1bde5426cf200f8003422e4d9c2a"), looks := true }, kinds := [], alts := [], laidByText := true, laidKinds := [.data, .data, .data, .data, .sentinel, .sentinel, .data, .pinned], laidTests := true, laidLooks := .later }
def VersionsOthersUptoCardSaid : Prop := Claim7.holds Tryz.pinned (.plain (OpenSpec.upto versionsOthersSpec)) versionsOthersUptoCard
end Rows
end Go.Proofs.YtnepkoepbapgeaaGreatDoor
