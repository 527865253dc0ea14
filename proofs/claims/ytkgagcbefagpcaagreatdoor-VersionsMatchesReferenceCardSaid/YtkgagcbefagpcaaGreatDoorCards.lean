/-
  DERIVED. GIVEN WITH THE SEED: THE CARDS: each row of YtkgagcbefagpcaaGreatDoorRows.lean that lists a variable, with what it lists TIED to the program's text (the seventh form; the later family's looks); each row that meets fmt, with fmt's text TOLD by the authors' own Lean function (tested against real Go, not proved from fmt's source: count such statements apart). THE CARD IS WHAT COUNTS. Prove the row's statement (the work); the ties are given (YtkgagcbefagpcaaGreatDoorTie.lean); close each card by the builder's one call (the guide's Derived/Test/ToyasCard.lean, 'card_holds'). Laid BY PROGRAM, IN A SANDBOX (cutbox-door.mjs). By AI agents, Wed Nov 11 2026. No macro, syntax, notation, axiom, sorry.
-/
import Derived.Test.YtkgagcbefagpcaaGreatDoorRows
import GoSem.ClaimSeven
namespace Go.Proofs.YtkgagcbefagpcaaGreatDoor
namespace Rows

/-- THE TIED CARD OF 'innkeeperlaw15.VersionsMatchesReference'. -/
def versionsMatchesReferenceCard : Claim7 := { stood := { row := versionsMatchesReferenceRow, standIns := [], harness := (true, "9fa88fc80f917dd811733c3db03682e868c061b6d7a0586ace3c98c5905e2bf9"), looks := true }, kinds := [], alts := [], laidByText := true, laidKinds := [.data, .data, .data, .data, .sentinel, .sentinel, .data, .pinned], laidTests := true, laidLooks := .later }
def VersionsMatchesReferenceCardSaid : Prop := Claim7.holds Tryz.pinned (.plain (OpenSpec.ofChange versionsMatchesReferenceSpec)) versionsMatchesReferenceCard

/-- THE SECOND FORM's CARD OF 'innkeeperlaw15.VersionsMatchesReference'. -/
def versionsMatchesReferenceUptoCard : Claim7 := { stood := { row := versionsMatchesReferenceUptoRow, standIns := [], harness := (true, "9fa88fc80f917dd811733c3db03682e868c061b6d7a0586ace3c98c5905e2bf9"), looks := true }, kinds := [], alts := [], laidByText := true, laidKinds := [.data, .data, .data, .data, .sentinel, .sentinel, .data, .pinned], laidTests := true, laidLooks := .later }
def VersionsMatchesReferenceUptoCardSaid : Prop := Claim7.holds Tryz.pinned (.plain (OpenSpec.upto versionsMatchesReferenceSpec)) versionsMatchesReferenceUptoCard
end Rows
end Go.Proofs.YtkgagcbefagpcaaGreatDoor
