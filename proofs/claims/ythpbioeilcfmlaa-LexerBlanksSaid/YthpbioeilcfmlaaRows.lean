/-
  No cell of these rows narrows 'for every input' (looked for: loops, veiled, ifaces, maps, wideKeys, modest, calm, conditions, laid).
  DERIVED. THE GIVEN ROWS OF THIS SEAT. 5 by the template 'for every input the law returns true; each argument reads behind the call as it read before'; 0 by the template 'total and deterministic' (their statements: YthpbioeilcfmlaaTotals.lean).
  GIVEN WITH THE SEED: the statements are not yours to turn. If you find one false, say at which input.
  Laid BY PROGRAM, IN A SANDBOX (cutbox-rows.mjs): the forced cells as the released guide's own fill.sh prints them over the translation 032095604ed1c29a… (all of the seat's roots in one cut). By AI agents, Wed Nov 11 2026. No macro, syntax, notation, axiom, sorry.
-/
import Derived.Test.YthpbioeilcfmlaaChecked
import GoSem.Claim
import GoSem.ClaimJoined
import GoSem.ClaimMapViews
import Derived.JoinedTies
import Derived.KernelRfl
namespace Go.Proofs.Ythpbioeilcfmlaa
/- THE CELL 'sum', in the pinned program and in every row, IS THE sha256 OF THE DUMP (.gsa) THAT YthpbioeilcfmlaaProg.lean LOADS. Nothing in Lean hashes anything: it is a label: what it is worth is what the hold of that sum in a sandbox is worth. -/
noncomputable def Try.pinned : Pinned := { name := "ythpbioeilcfmlaa", sum := "032095604ed1c29a40f60a429929cca9c603baa4f1698b82e83f13bf75d5119d", checked := Try.checked }
namespace Rows
def none {H : Type} : Left H := { results := [], args := [] }

/-- 'innkeeperlaw07.LexerMatchesReference': WHATEVER THE INPUT: true; the input reads as it did. -/
def lexerMatchesReferenceSpec : ChangeSpec := { name := "lexerMatchesReference", fn := fun _ => fun
  | [d1, d2] => { results := [.lit (.bool true)], args := [d1, d2] }
  | _ => none }
def lexerMatchesReferenceRow : OpenClaim := { program := "ythpbioeilcfmlaa", sum := "032095604ed1c29a40f60a429929cca9c603baa4f1698b82e83f13bf75d5119d", func := "innkeeper/innkeeperlaw07.LexerMatchesReference", spec := "lexerMatchesReference", inPlace := ["internal/bytealg.IndexByteString", "internal/bytealg.IndexString", "internal/abi.NoEscape", "internal/bytealg.MakeNoZero"], unfollowed := true, recurses := true, named := ["internal/bytealg.MaxLen"], apart := false }
def LexerMatchesReferenceSaid : Prop := lexerMatchesReferenceRow.holds Try.pinned (OpenSpec.ofChange lexerMatchesReferenceSpec)

/-- ITS FALSE NEIGHBOUR: 'it returns false'. Refute it at one input. -/
def lexerMatchesReferenceWrong : ChangeSpec := { name := "lexerMatchesReference", fn := fun _ => fun
  | [d1, d2] => { results := [.lit (.bool false)], args := [d1, d2] }
  | _ => none }
def LexerMatchesReferenceWrongFalsely : Prop := lexerMatchesReferenceRow.holds Try.pinned (OpenSpec.ofChange lexerMatchesReferenceWrong)

/-- 'innkeeperlaw07.LexerInverse': WHATEVER THE INPUT: true; the input reads as it did. -/
def lexerInverseSpec : ChangeSpec := { name := "lexerInverse", fn := fun _ => fun
  | [d1, d2] => { results := [.lit (.bool true)], args := [d1, d2] }
  | _ => none }
def lexerInverseRow : OpenClaim := { program := "ythpbioeilcfmlaa", sum := "032095604ed1c29a40f60a429929cca9c603baa4f1698b82e83f13bf75d5119d", func := "innkeeper/innkeeperlaw07.LexerInverse", spec := "lexerInverse", inPlace := ["internal/bytealg.IndexByteString", "internal/bytealg.IndexString", "internal/abi.NoEscape", "internal/bytealg.MakeNoZero"], unfollowed := true, recurses := true, named := ["internal/bytealg.MaxLen"], apart := false }
def LexerInverseSaid : Prop := lexerInverseRow.holds Try.pinned (OpenSpec.ofChange lexerInverseSpec)

/-- ITS FALSE NEIGHBOUR: 'it returns false'. Refute it at one input. -/
def lexerInverseWrong : ChangeSpec := { name := "lexerInverse", fn := fun _ => fun
  | [d1, d2] => { results := [.lit (.bool false)], args := [d1, d2] }
  | _ => none }
def LexerInverseWrongFalsely : Prop := lexerInverseRow.holds Try.pinned (OpenSpec.ofChange lexerInverseWrong)

/-- 'innkeeperlaw07.LexerBlanks': WHATEVER THE INPUT: true; the input reads as it did. -/
def lexerBlanksSpec : ChangeSpec := { name := "lexerBlanks", fn := fun _ => fun
  | [d1, d2, d3] => { results := [.lit (.bool true)], args := [d1, d2, d3] }
  | _ => none }
def lexerBlanksRow : OpenClaim := { program := "ythpbioeilcfmlaa", sum := "032095604ed1c29a40f60a429929cca9c603baa4f1698b82e83f13bf75d5119d", func := "innkeeper/innkeeperlaw07.LexerBlanks", spec := "lexerBlanks", inPlace := ["internal/bytealg.IndexByteString", "internal/bytealg.IndexString", "internal/abi.NoEscape", "internal/bytealg.MakeNoZero"], unfollowed := true, recurses := true, named := ["internal/bytealg.MaxLen"], apart := false }
def LexerBlanksSaid : Prop := lexerBlanksRow.holds Try.pinned (OpenSpec.ofChange lexerBlanksSpec)

/-- ITS FALSE NEIGHBOUR: 'it returns false'. Refute it at one input. -/
def lexerBlanksWrong : ChangeSpec := { name := "lexerBlanks", fn := fun _ => fun
  | [d1, d2, d3] => { results := [.lit (.bool false)], args := [d1, d2, d3] }
  | _ => none }
def LexerBlanksWrongFalsely : Prop := lexerBlanksRow.holds Try.pinned (OpenSpec.ofChange lexerBlanksWrong)

/-- 'innkeeperlaw07.LexerParts': WHATEVER THE INPUT: true; the input reads as it did. -/
def lexerPartsSpec : ChangeSpec := { name := "lexerParts", fn := fun _ => fun
  | [d1, d2] => { results := [.lit (.bool true)], args := [d1, d2] }
  | _ => none }
def lexerPartsRow : OpenClaim := { program := "ythpbioeilcfmlaa", sum := "032095604ed1c29a40f60a429929cca9c603baa4f1698b82e83f13bf75d5119d", func := "innkeeper/innkeeperlaw07.LexerParts", spec := "lexerParts", inPlace := ["internal/bytealg.IndexByteString", "internal/bytealg.IndexString", "internal/abi.NoEscape", "internal/bytealg.MakeNoZero"], unfollowed := true, recurses := true, named := ["internal/bytealg.MaxLen"], apart := false }
def LexerPartsSaid : Prop := lexerPartsRow.holds Try.pinned (OpenSpec.ofChange lexerPartsSpec)

/-- ITS FALSE NEIGHBOUR: 'it returns false'. Refute it at one input. -/
def lexerPartsWrong : ChangeSpec := { name := "lexerParts", fn := fun _ => fun
  | [d1, d2] => { results := [.lit (.bool false)], args := [d1, d2] }
  | _ => none }
def LexerPartsWrongFalsely : Prop := lexerPartsRow.holds Try.pinned (OpenSpec.ofChange lexerPartsWrong)

/-- 'innkeeperlaw07.LexerKinds': WHATEVER THE INPUT: true; the input reads as it did. -/
def lexerKindsSpec : ChangeSpec := { name := "lexerKinds", fn := fun _ => fun
  | [d] => { results := [.lit (.bool true)], args := [d] }
  | _ => none }
def lexerKindsRow : OpenClaim := { program := "ythpbioeilcfmlaa", sum := "032095604ed1c29a40f60a429929cca9c603baa4f1698b82e83f13bf75d5119d", func := "innkeeper/innkeeperlaw07.LexerKinds", spec := "lexerKinds", inPlace := ["internal/bytealg.IndexByteString", "internal/bytealg.IndexString", "internal/abi.NoEscape", "internal/bytealg.MakeNoZero"], unfollowed := true, recurses := true, named := ["internal/bytealg.MaxLen"], apart := false }
def LexerKindsSaid : Prop := lexerKindsRow.holds Try.pinned (OpenSpec.ofChange lexerKindsSpec)

/-- ITS FALSE NEIGHBOUR: 'it returns false'. Refute it at one input. -/
def lexerKindsWrong : ChangeSpec := { name := "lexerKinds", fn := fun _ => fun
  | [d] => { results := [.lit (.bool false)], args := [d] }
  | _ => none }
def LexerKindsWrongFalsely : Prop := lexerKindsRow.holds Try.pinned (OpenSpec.ofChange lexerKindsWrong)

/- THE SECOND FORM. 'bulk': how many values and letters a reading holds, each counted each time it is reached (what is shared counts as often as it is met; a slice's spare places count too). A statement '..UptoSaid' is the law's where the arguments, and the package variables that the reading takes, are together of bulk at most 1048576: NARROWER than '..Said'. Prove '..Said' where nothing that the law and all that it calls make is longer than what came in: it says more and counts as full. Else prove '..UptoSaid'. A law counts once. -/
mutual
def uptoBulk {H : Type} : DataW H → Nat
  | .lit (.string bytes) => bytes.length + 1
  | .lit _ => 1
  | .nil => 1
  | .ptr d => uptoBulk d + 1
  | .slice elems spare => uptoBulkAll elems + uptoBulkAll spare + 1
  | .agg parts => uptoBulkAll parts + 1
  | .iface _ d => uptoBulk d + 1
  | .map entries => uptoBulkEntries entries + 1
  | .held _ => 1
def uptoBulkAll {H : Type} : List (DataW H) → Nat
  | [] => 0
  | d :: r => uptoBulk d + uptoBulkAll r
def uptoBulkEntries {H : Type} : List (Lit × DataW H) → Nat
  | [] => 0
  | x :: r => uptoBulkEntry x + uptoBulkEntries r
def uptoBulkEntry {H : Type} : Lit × DataW H → Nat
  | (.string bytes, d) => bytes.length + uptoBulk d + 1
  | (_, d) => uptoBulk d + 1
 end
def uptoSmall : (H : Type) → List (DataW H) → Bool := fun _ ds => decide (uptoBulkAll ds ≤ 1048576)
def OpenSpec.upto (s : _root_.Go.ChangeSpec) : _root_.Go.OpenSpec := { _root_.Go.OpenSpec.ofChange s with cond := some uptoSmall }

/-- 'innkeeperlaw07.LexerMatchesReference', WHERE WHAT IT READS IS OF BULK AT MOST 1048576: true; the input reads as it did. -/
def lexerMatchesReferenceUptoRow : OpenClaim := { program := "ythpbioeilcfmlaa", sum := "032095604ed1c29a40f60a429929cca9c603baa4f1698b82e83f13bf75d5119d", func := "innkeeper/innkeeperlaw07.LexerMatchesReference", spec := "lexerMatchesReference", inPlace := ["internal/bytealg.IndexByteString", "internal/bytealg.IndexString", "internal/abi.NoEscape", "internal/bytealg.MakeNoZero"], unfollowed := true, recurses := true, named := ["internal/bytealg.MaxLen"], apart := false, narrowed := true }
def LexerMatchesReferenceUptoSaid : Prop := lexerMatchesReferenceUptoRow.holds Try.pinned (OpenSpec.upto lexerMatchesReferenceSpec)

/-- 'innkeeperlaw07.LexerInverse', WHERE WHAT IT READS IS OF BULK AT MOST 1048576: true; the input reads as it did. -/
def lexerInverseUptoRow : OpenClaim := { program := "ythpbioeilcfmlaa", sum := "032095604ed1c29a40f60a429929cca9c603baa4f1698b82e83f13bf75d5119d", func := "innkeeper/innkeeperlaw07.LexerInverse", spec := "lexerInverse", inPlace := ["internal/bytealg.IndexByteString", "internal/bytealg.IndexString", "internal/abi.NoEscape", "internal/bytealg.MakeNoZero"], unfollowed := true, recurses := true, named := ["internal/bytealg.MaxLen"], apart := false, narrowed := true }
def LexerInverseUptoSaid : Prop := lexerInverseUptoRow.holds Try.pinned (OpenSpec.upto lexerInverseSpec)

/-- 'innkeeperlaw07.LexerBlanks', WHERE WHAT IT READS IS OF BULK AT MOST 1048576: true; the input reads as it did. -/
def lexerBlanksUptoRow : OpenClaim := { program := "ythpbioeilcfmlaa", sum := "032095604ed1c29a40f60a429929cca9c603baa4f1698b82e83f13bf75d5119d", func := "innkeeper/innkeeperlaw07.LexerBlanks", spec := "lexerBlanks", inPlace := ["internal/bytealg.IndexByteString", "internal/bytealg.IndexString", "internal/abi.NoEscape", "internal/bytealg.MakeNoZero"], unfollowed := true, recurses := true, named := ["internal/bytealg.MaxLen"], apart := false, narrowed := true }
def LexerBlanksUptoSaid : Prop := lexerBlanksUptoRow.holds Try.pinned (OpenSpec.upto lexerBlanksSpec)

/-- 'innkeeperlaw07.LexerParts', WHERE WHAT IT READS IS OF BULK AT MOST 1048576: true; the input reads as it did. -/
def lexerPartsUptoRow : OpenClaim := { program := "ythpbioeilcfmlaa", sum := "032095604ed1c29a40f60a429929cca9c603baa4f1698b82e83f13bf75d5119d", func := "innkeeper/innkeeperlaw07.LexerParts", spec := "lexerParts", inPlace := ["internal/bytealg.IndexByteString", "internal/bytealg.IndexString", "internal/abi.NoEscape", "internal/bytealg.MakeNoZero"], unfollowed := true, recurses := true, named := ["internal/bytealg.MaxLen"], apart := false, narrowed := true }
def LexerPartsUptoSaid : Prop := lexerPartsUptoRow.holds Try.pinned (OpenSpec.upto lexerPartsSpec)

/-- 'innkeeperlaw07.LexerKinds', WHERE WHAT IT READS IS OF BULK AT MOST 1048576: true; the input reads as it did. -/
def lexerKindsUptoRow : OpenClaim := { program := "ythpbioeilcfmlaa", sum := "032095604ed1c29a40f60a429929cca9c603baa4f1698b82e83f13bf75d5119d", func := "innkeeper/innkeeperlaw07.LexerKinds", spec := "lexerKinds", inPlace := ["internal/bytealg.IndexByteString", "internal/bytealg.IndexString", "internal/abi.NoEscape", "internal/bytealg.MakeNoZero"], unfollowed := true, recurses := true, named := ["internal/bytealg.MaxLen"], apart := false, narrowed := true }
def LexerKindsUptoSaid : Prop := lexerKindsUptoRow.holds Try.pinned (OpenSpec.upto lexerKindsSpec)

end Rows
end Go.Proofs.Ythpbioeilcfmlaa
