/-
  NARROWER THAN 'FOR EVERY INPUT', by the rows' own cells (each row's printed sentence says how): QuoteMatchesReference: loops, laid · QuoteHonest: loops, laid · QuoteAgain: loops, laid · QuoteChanged: loops, laid · QuoteOrder: loops, laid · QuoteSums: loops, laid · VersionsMatchesReference: loops, laid · VersionsForce: loops, laid · VersionsPush: loops, laid · VersionsHonour: loops, laid · VersionsOthers: loops, laid.
  DERIVED. THE GIVEN ROWS OF THIS SEAT. 11 by the template 'for every input the law returns true; each argument reads behind the call as it read before'; 0 by the template 'total and deterministic' (their statements: YtnepkoepbapgeaaGreatDoorTotals.lean).
  GIVEN WITH THE SEED: the statements are not yours to turn. If you find one false, say at which input.
  Laid BY PROGRAM, IN A SANDBOX (cutbox-rows.mjs): the forced cells as the released guide's own fill.sh prints them over the translation 27aae553f6f95fd3… (all of the seat's roots in one cut). By AI agents, Wed Nov 11 2026. No macro, syntax, notation, axiom, sorry.
-/
import Derived.Test.YtnepkoepbapgeaaGreatDoorChecked
import GoSem.PinnedTables
import GoSem.Claim
import GoSem.ClaimJoined
import GoSem.ClaimMapViews
import Derived.JoinedTies
import Derived.KernelRfl
namespace Go.Proofs.YtnepkoepbapgeaaGreatDoor
/- THE CELL 'sum', in the pinned program and in every row, IS THE sha256 OF THE DUMP (.gsa) THAT YtnepkoepbapgeaaGreatDoorProg.lean LOADS. Nothing in Lean hashes anything: it is a label: what it is worth is what the hold of that sum in a sandbox is worth. -/
noncomputable def Tryz.pinned : Pinned := { name := "ytnepkoepbapgeaagreatdoor", sum := "27aae553f6f95fd36420a10d00fbcc76692cdec796fb337e64a2777e856580da", checked := Tryz.checked }
namespace Rows
def none {H : Type} : Left H := { results := [], args := [] }

/- WHAT THE LISTED PACKAGE-LEVEL VARIABLES READ AS WHEN THE CALL BEGINS. Each datum BY PROGRAM (the guide's laid-datum.mjs) off the statement by which the dump's own 'gosem.cut.vars' lays the variable. In a bare row this is a premise. The card (YtnepkoepbapgeaaGreatDoorCards.lean) ties it to the program's text. -/
def laid_math_bits_deBruijn32tab {H : Type} : DataW H := .agg [.lit (.int .u8 0), .lit (.int .u8 1), .lit (.int .u8 28), .lit (.int .u8 2), .lit (.int .u8 29), .lit (.int .u8 14), .lit (.int .u8 24), .lit (.int .u8 3), .lit (.int .u8 30), .lit (.int .u8 22), .lit (.int .u8 20), .lit (.int .u8 15), .lit (.int .u8 25), .lit (.int .u8 17), .lit (.int .u8 4), .lit (.int .u8 8), .lit (.int .u8 31), .lit (.int .u8 27), .lit (.int .u8 13), .lit (.int .u8 23), .lit (.int .u8 21), .lit (.int .u8 19), .lit (.int .u8 16), .lit (.int .u8 7), .lit (.int .u8 26), .lit (.int .u8 12), .lit (.int .u8 18), .lit (.int .u8 6), .lit (.int .u8 11), .lit (.int .u8 5), .lit (.int .u8 10), .lit (.int .u8 9)]
def laid_math_bits_deBruijn64tab {H : Type} : DataW H := .agg [.lit (.int .u8 0), .lit (.int .u8 1), .lit (.int .u8 56), .lit (.int .u8 2), .lit (.int .u8 57), .lit (.int .u8 49), .lit (.int .u8 28), .lit (.int .u8 3), .lit (.int .u8 61), .lit (.int .u8 58), .lit (.int .u8 42), .lit (.int .u8 50), .lit (.int .u8 38), .lit (.int .u8 29), .lit (.int .u8 17), .lit (.int .u8 4), .lit (.int .u8 62), .lit (.int .u8 47), .lit (.int .u8 59), .lit (.int .u8 36), .lit (.int .u8 45), .lit (.int .u8 43), .lit (.int .u8 51), .lit (.int .u8 22), .lit (.int .u8 53), .lit (.int .u8 39), .lit (.int .u8 33), .lit (.int .u8 30), .lit (.int .u8 24), .lit (.int .u8 18), .lit (.int .u8 12), .lit (.int .u8 5), .lit (.int .u8 63), .lit (.int .u8 55), .lit (.int .u8 48), .lit (.int .u8 27), .lit (.int .u8 60), .lit (.int .u8 41), .lit (.int .u8 37), .lit (.int .u8 16), .lit (.int .u8 46), .lit (.int .u8 35), .lit (.int .u8 44), .lit (.int .u8 21), .lit (.int .u8 52), .lit (.int .u8 32), .lit (.int .u8 23), .lit (.int .u8 11), .lit (.int .u8 54), .lit (.int .u8 26), .lit (.int .u8 40), .lit (.int .u8 15), .lit (.int .u8 34), .lit (.int .u8 20), .lit (.int .u8 31), .lit (.int .u8 10), .lit (.int .u8 25), .lit (.int .u8 14), .lit (.int .u8 19), .lit (.int .u8 9), .lit (.int .u8 13), .lit (.int .u8 8), .lit (.int .u8 7), .lit (.int .u8 6)]
def laid_internal_strconv_uint64pow10 {H : Type} : DataW H := .agg [.lit (.int .u64 1), .lit (.int .u64 10), .lit (.int .u64 100), .lit (.int .u64 1000), .lit (.int .u64 10000), .lit (.int .u64 100000), .lit (.int .u64 1000000), .lit (.int .u64 10000000), .lit (.int .u64 100000000), .lit (.int .u64 1000000000), .lit (.int .u64 10000000000), .lit (.int .u64 100000000000), .lit (.int .u64 1000000000000), .lit (.int .u64 10000000000000), .lit (.int .u64 100000000000000), .lit (.int .u64 1000000000000000), .lit (.int .u64 10000000000000000), .lit (.int .u64 100000000000000000), .lit (.int .u64 1000000000000000000), .lit (.int .u64 10000000000000000000)]
def laid_unicode_utf8_acceptRanges {H : Type} : DataW H := .agg [.agg [.lit (.int .u8 128), .lit (.int .u8 191)], .agg [.lit (.int .u8 160), .lit (.int .u8 191)], .agg [.lit (.int .u8 128), .lit (.int .u8 159)], .agg [.lit (.int .u8 144), .lit (.int .u8 191)], .agg [.lit (.int .u8 128), .lit (.int .u8 143)], .agg [.lit (.int .u8 0), .lit (.int .u8 0)], .agg [.lit (.int .u8 0), .lit (.int .u8 0)], .agg [.lit (.int .u8 0), .lit (.int .u8 0)], .agg [.lit (.int .u8 0), .lit (.int .u8 0)], .agg [.lit (.int .u8 0), .lit (.int .u8 0)], .agg [.lit (.int .u8 0), .lit (.int .u8 0)], .agg [.lit (.int .u8 0), .lit (.int .u8 0)], .agg [.lit (.int .u8 0), .lit (.int .u8 0)], .agg [.lit (.int .u8 0), .lit (.int .u8 0)], .agg [.lit (.int .u8 0), .lit (.int .u8 0)], .agg [.lit (.int .u8 0), .lit (.int .u8 0)]]
def laid_strconv_ErrRange {H : Type} : DataW H := .iface "*errors.errorString" (.ptr (.agg [.lit (.string [118, 97, 108, 117, 101, 32, 111, 117, 116, 32, 111, 102, 32, 114, 97, 110, 103, 101])]))
def laid_strconv_ErrSyntax {H : Type} : DataW H := .iface "*errors.errorString" (.ptr (.agg [.lit (.string [105, 110, 118, 97, 108, 105, 100, 32, 115, 121, 110, 116, 97, 120])]))
def laid_innkeeper_printer_names {H : Type} : DataW H := .agg [.lit (.string []), .lit (.string [110, 105, 103, 104, 116, 115]), .lit (.string [112, 101, 114, 115, 111, 110, 115]), .lit (.string [110, 105, 103, 104, 116]), .lit (.string [119, 101, 101, 107, 100, 97, 121])]
/-- One of Go's own tables, pinned by name: the form's constant. -/
def laid_unicode_utf8_first : DataW Unit := Go.Pinned.utf8First

/-- 'innkeeperlaw12.QuoteMatchesReference': WHATEVER THE INPUT: true; the input reads as it did. -/
def quoteMatchesReferenceSpec : ChangeSpec := { name := "quoteMatchesReference", fn := fun _ => fun
  | [d1, d2, d3, d4, d5, d6, d7] => { results := [.lit (.bool true)], args := [d1, d2, d3, d4, d5, d6, d7] }
  | _ => none }
def quoteMatchesReferenceRow : OpenClaim := { program := "ytnepkoepbapgeaagreatdoor", sum := "27aae553f6f95fd36420a10d00fbcc76692cdec796fb337e64a2777e856580da", func := "innkeeper/innkeeperlaw12.QuoteMatchesReference", spec := "quoteMatchesReference", inPlace := ["internal/bytealg.IndexByteString", "internal/bytealg.IndexString", "internal/bytealg.CountString", "internal/abi.NoEscape", "internal/bytealg.MakeNoZero"], unfollowed := true, recurses := true, named := ["internal/bytealg.MaxLen", "unicode/utf8.first", "unicode/utf8.acceptRanges", "strconv.ErrSyntax", "strconv.ErrRange", "internal/strconv.uint64pow10", "math/bits.deBruijn32tab", "math/bits.deBruijn64tab", "innkeeper/printer.names"], loops := true, apart := false, laid := [("math/bits.deBruijn32tab", laid_math_bits_deBruijn32tab), ("math/bits.deBruijn64tab", laid_math_bits_deBruijn64tab), ("internal/strconv.uint64pow10", laid_internal_strconv_uint64pow10), ("unicode/utf8.acceptRanges", laid_unicode_utf8_acceptRanges), ("strconv.ErrRange", laid_strconv_ErrRange), ("strconv.ErrSyntax", laid_strconv_ErrSyntax), ("innkeeper/printer.names", laid_innkeeper_printer_names), ("unicode/utf8.first", laid_unicode_utf8_first)] }
def QuoteMatchesReferenceSaid : Prop := quoteMatchesReferenceRow.holds Tryz.pinned (OpenSpec.ofChange quoteMatchesReferenceSpec)

/-- ITS FALSE NEIGHBOUR: 'it returns false'. Refute it at one input. -/
def quoteMatchesReferenceWrong : ChangeSpec := { name := "quoteMatchesReference", fn := fun _ => fun
  | [d1, d2, d3, d4, d5, d6, d7] => { results := [.lit (.bool false)], args := [d1, d2, d3, d4, d5, d6, d7] }
  | _ => none }
def QuoteMatchesReferenceWrongFalsely : Prop := quoteMatchesReferenceRow.holds Tryz.pinned (OpenSpec.ofChange quoteMatchesReferenceWrong)

/-- 'innkeeperlaw12.QuoteHonest': WHATEVER THE INPUT: true; the input reads as it did. -/
def quoteHonestSpec : ChangeSpec := { name := "quoteHonest", fn := fun _ => fun
  | [d1, d2, d3, d4, d5] => { results := [.lit (.bool true)], args := [d1, d2, d3, d4, d5] }
  | _ => none }
def quoteHonestRow : OpenClaim := { program := "ytnepkoepbapgeaagreatdoor", sum := "27aae553f6f95fd36420a10d00fbcc76692cdec796fb337e64a2777e856580da", func := "innkeeper/innkeeperlaw12.QuoteHonest", spec := "quoteHonest", inPlace := ["internal/bytealg.IndexByteString", "internal/bytealg.IndexString", "internal/bytealg.CountString", "internal/abi.NoEscape", "internal/bytealg.MakeNoZero"], unfollowed := true, recurses := true, named := ["internal/bytealg.MaxLen", "unicode/utf8.first", "unicode/utf8.acceptRanges", "strconv.ErrSyntax", "strconv.ErrRange", "internal/strconv.uint64pow10", "math/bits.deBruijn32tab", "math/bits.deBruijn64tab", "innkeeper/printer.names"], loops := true, apart := false, laid := [("math/bits.deBruijn32tab", laid_math_bits_deBruijn32tab), ("math/bits.deBruijn64tab", laid_math_bits_deBruijn64tab), ("internal/strconv.uint64pow10", laid_internal_strconv_uint64pow10), ("unicode/utf8.acceptRanges", laid_unicode_utf8_acceptRanges), ("strconv.ErrRange", laid_strconv_ErrRange), ("strconv.ErrSyntax", laid_strconv_ErrSyntax), ("innkeeper/printer.names", laid_innkeeper_printer_names), ("unicode/utf8.first", laid_unicode_utf8_first)] }
def QuoteHonestSaid : Prop := quoteHonestRow.holds Tryz.pinned (OpenSpec.ofChange quoteHonestSpec)

/-- ITS FALSE NEIGHBOUR: 'it returns false'. Refute it at one input. -/
def quoteHonestWrong : ChangeSpec := { name := "quoteHonest", fn := fun _ => fun
  | [d1, d2, d3, d4, d5] => { results := [.lit (.bool false)], args := [d1, d2, d3, d4, d5] }
  | _ => none }
def QuoteHonestWrongFalsely : Prop := quoteHonestRow.holds Tryz.pinned (OpenSpec.ofChange quoteHonestWrong)

/-- 'innkeeperlaw12.QuoteAgain': WHATEVER THE INPUT: true; the input reads as it did. -/
def quoteAgainSpec : ChangeSpec := { name := "quoteAgain", fn := fun _ => fun
  | [d1, d2, d3, d4, d5, d6] => { results := [.lit (.bool true)], args := [d1, d2, d3, d4, d5, d6] }
  | _ => none }
def quoteAgainRow : OpenClaim := { program := "ytnepkoepbapgeaagreatdoor", sum := "27aae553f6f95fd36420a10d00fbcc76692cdec796fb337e64a2777e856580da", func := "innkeeper/innkeeperlaw12.QuoteAgain", spec := "quoteAgain", inPlace := ["internal/bytealg.IndexByteString", "internal/bytealg.IndexString", "internal/bytealg.CountString", "internal/abi.NoEscape", "internal/bytealg.MakeNoZero"], unfollowed := true, recurses := true, named := ["internal/bytealg.MaxLen", "unicode/utf8.first", "unicode/utf8.acceptRanges", "strconv.ErrSyntax", "strconv.ErrRange", "internal/strconv.uint64pow10", "math/bits.deBruijn32tab", "math/bits.deBruijn64tab", "innkeeper/printer.names"], loops := true, apart := false, laid := [("math/bits.deBruijn32tab", laid_math_bits_deBruijn32tab), ("math/bits.deBruijn64tab", laid_math_bits_deBruijn64tab), ("internal/strconv.uint64pow10", laid_internal_strconv_uint64pow10), ("unicode/utf8.acceptRanges", laid_unicode_utf8_acceptRanges), ("strconv.ErrRange", laid_strconv_ErrRange), ("strconv.ErrSyntax", laid_strconv_ErrSyntax), ("innkeeper/printer.names", laid_innkeeper_printer_names), ("unicode/utf8.first", laid_unicode_utf8_first)] }
def QuoteAgainSaid : Prop := quoteAgainRow.holds Tryz.pinned (OpenSpec.ofChange quoteAgainSpec)

/-- ITS FALSE NEIGHBOUR: 'it returns false'. Refute it at one input. -/
def quoteAgainWrong : ChangeSpec := { name := "quoteAgain", fn := fun _ => fun
  | [d1, d2, d3, d4, d5, d6] => { results := [.lit (.bool false)], args := [d1, d2, d3, d4, d5, d6] }
  | _ => none }
def QuoteAgainWrongFalsely : Prop := quoteAgainRow.holds Tryz.pinned (OpenSpec.ofChange quoteAgainWrong)

/-- 'innkeeperlaw12.QuoteChanged': WHATEVER THE INPUT: true; the input reads as it did. -/
def quoteChangedSpec : ChangeSpec := { name := "quoteChanged", fn := fun _ => fun
  | [d1, d2, d3, d4, d5, d6] => { results := [.lit (.bool true)], args := [d1, d2, d3, d4, d5, d6] }
  | _ => none }
def quoteChangedRow : OpenClaim := { program := "ytnepkoepbapgeaagreatdoor", sum := "27aae553f6f95fd36420a10d00fbcc76692cdec796fb337e64a2777e856580da", func := "innkeeper/innkeeperlaw12.QuoteChanged", spec := "quoteChanged", inPlace := ["internal/bytealg.IndexByteString", "internal/bytealg.IndexString", "internal/bytealg.CountString", "internal/abi.NoEscape", "internal/bytealg.MakeNoZero"], unfollowed := true, recurses := true, named := ["internal/bytealg.MaxLen", "unicode/utf8.first", "unicode/utf8.acceptRanges", "strconv.ErrSyntax", "strconv.ErrRange", "internal/strconv.uint64pow10", "math/bits.deBruijn32tab", "math/bits.deBruijn64tab", "innkeeper/printer.names"], loops := true, apart := false, laid := [("math/bits.deBruijn32tab", laid_math_bits_deBruijn32tab), ("math/bits.deBruijn64tab", laid_math_bits_deBruijn64tab), ("internal/strconv.uint64pow10", laid_internal_strconv_uint64pow10), ("unicode/utf8.acceptRanges", laid_unicode_utf8_acceptRanges), ("strconv.ErrRange", laid_strconv_ErrRange), ("strconv.ErrSyntax", laid_strconv_ErrSyntax), ("innkeeper/printer.names", laid_innkeeper_printer_names), ("unicode/utf8.first", laid_unicode_utf8_first)] }
def QuoteChangedSaid : Prop := quoteChangedRow.holds Tryz.pinned (OpenSpec.ofChange quoteChangedSpec)

/-- ITS FALSE NEIGHBOUR: 'it returns false'. Refute it at one input. -/
def quoteChangedWrong : ChangeSpec := { name := "quoteChanged", fn := fun _ => fun
  | [d1, d2, d3, d4, d5, d6] => { results := [.lit (.bool false)], args := [d1, d2, d3, d4, d5, d6] }
  | _ => none }
def QuoteChangedWrongFalsely : Prop := quoteChangedRow.holds Tryz.pinned (OpenSpec.ofChange quoteChangedWrong)

/-- 'innkeeperlaw12.QuoteOrder': WHATEVER THE INPUT: true; the input reads as it did. -/
def quoteOrderSpec : ChangeSpec := { name := "quoteOrder", fn := fun _ => fun
  | [d1, d2, d3] => { results := [.lit (.bool true)], args := [d1, d2, d3] }
  | _ => none }
def quoteOrderRow : OpenClaim := { program := "ytnepkoepbapgeaagreatdoor", sum := "27aae553f6f95fd36420a10d00fbcc76692cdec796fb337e64a2777e856580da", func := "innkeeper/innkeeperlaw12.QuoteOrder", spec := "quoteOrder", inPlace := ["internal/bytealg.IndexByteString", "internal/bytealg.IndexString", "internal/bytealg.CountString", "internal/abi.NoEscape", "internal/bytealg.MakeNoZero"], unfollowed := true, recurses := true, named := ["internal/bytealg.MaxLen", "unicode/utf8.first", "unicode/utf8.acceptRanges", "strconv.ErrSyntax", "strconv.ErrRange", "internal/strconv.uint64pow10", "math/bits.deBruijn32tab", "math/bits.deBruijn64tab", "innkeeper/printer.names"], loops := true, apart := false, laid := [("math/bits.deBruijn32tab", laid_math_bits_deBruijn32tab), ("math/bits.deBruijn64tab", laid_math_bits_deBruijn64tab), ("internal/strconv.uint64pow10", laid_internal_strconv_uint64pow10), ("unicode/utf8.acceptRanges", laid_unicode_utf8_acceptRanges), ("strconv.ErrRange", laid_strconv_ErrRange), ("strconv.ErrSyntax", laid_strconv_ErrSyntax), ("innkeeper/printer.names", laid_innkeeper_printer_names), ("unicode/utf8.first", laid_unicode_utf8_first)] }
def QuoteOrderSaid : Prop := quoteOrderRow.holds Tryz.pinned (OpenSpec.ofChange quoteOrderSpec)

/-- ITS FALSE NEIGHBOUR: 'it returns false'. Refute it at one input. -/
def quoteOrderWrong : ChangeSpec := { name := "quoteOrder", fn := fun _ => fun
  | [d1, d2, d3] => { results := [.lit (.bool false)], args := [d1, d2, d3] }
  | _ => none }
def QuoteOrderWrongFalsely : Prop := quoteOrderRow.holds Tryz.pinned (OpenSpec.ofChange quoteOrderWrong)

/-- 'innkeeperlaw12.QuoteSums': WHATEVER THE INPUT: true; the input reads as it did. -/
def quoteSumsSpec : ChangeSpec := { name := "quoteSums", fn := fun _ => fun
  | [d1, d2, d3] => { results := [.lit (.bool true)], args := [d1, d2, d3] }
  | _ => none }
def quoteSumsRow : OpenClaim := { program := "ytnepkoepbapgeaagreatdoor", sum := "27aae553f6f95fd36420a10d00fbcc76692cdec796fb337e64a2777e856580da", func := "innkeeper/innkeeperlaw12.QuoteSums", spec := "quoteSums", inPlace := ["internal/bytealg.IndexByteString", "internal/bytealg.IndexString", "internal/bytealg.CountString", "internal/abi.NoEscape", "internal/bytealg.MakeNoZero"], unfollowed := true, recurses := true, named := ["internal/bytealg.MaxLen", "unicode/utf8.first", "unicode/utf8.acceptRanges", "strconv.ErrSyntax", "strconv.ErrRange", "internal/strconv.uint64pow10", "math/bits.deBruijn32tab", "math/bits.deBruijn64tab", "innkeeper/printer.names"], loops := true, apart := false, laid := [("math/bits.deBruijn32tab", laid_math_bits_deBruijn32tab), ("math/bits.deBruijn64tab", laid_math_bits_deBruijn64tab), ("internal/strconv.uint64pow10", laid_internal_strconv_uint64pow10), ("unicode/utf8.acceptRanges", laid_unicode_utf8_acceptRanges), ("strconv.ErrRange", laid_strconv_ErrRange), ("strconv.ErrSyntax", laid_strconv_ErrSyntax), ("innkeeper/printer.names", laid_innkeeper_printer_names), ("unicode/utf8.first", laid_unicode_utf8_first)] }
def QuoteSumsSaid : Prop := quoteSumsRow.holds Tryz.pinned (OpenSpec.ofChange quoteSumsSpec)

/-- ITS FALSE NEIGHBOUR: 'it returns false'. Refute it at one input. -/
def quoteSumsWrong : ChangeSpec := { name := "quoteSums", fn := fun _ => fun
  | [d1, d2, d3] => { results := [.lit (.bool false)], args := [d1, d2, d3] }
  | _ => none }
def QuoteSumsWrongFalsely : Prop := quoteSumsRow.holds Tryz.pinned (OpenSpec.ofChange quoteSumsWrong)

/-- 'innkeeperlaw15.VersionsMatchesReference': WHATEVER THE INPUT: true; the input reads as it did. -/
def versionsMatchesReferenceSpec : ChangeSpec := { name := "versionsMatchesReference", fn := fun _ => fun
  | [d1, d2, d3, d4, d5] => { results := [.lit (.bool true)], args := [d1, d2, d3, d4, d5] }
  | _ => none }
def versionsMatchesReferenceRow : OpenClaim := { program := "ytnepkoepbapgeaagreatdoor", sum := "27aae553f6f95fd36420a10d00fbcc76692cdec796fb337e64a2777e856580da", func := "innkeeper/innkeeperlaw15.VersionsMatchesReference", spec := "versionsMatchesReference", inPlace := ["internal/bytealg.IndexByteString", "internal/bytealg.IndexString", "internal/bytealg.CountString", "internal/abi.NoEscape", "internal/bytealg.MakeNoZero"], unfollowed := true, recurses := true, named := ["internal/bytealg.MaxLen", "unicode/utf8.first", "unicode/utf8.acceptRanges", "strconv.ErrSyntax", "strconv.ErrRange", "internal/strconv.uint64pow10", "math/bits.deBruijn32tab", "math/bits.deBruijn64tab", "innkeeper/printer.names"], loops := true, apart := false, laid := [("math/bits.deBruijn32tab", laid_math_bits_deBruijn32tab), ("math/bits.deBruijn64tab", laid_math_bits_deBruijn64tab), ("internal/strconv.uint64pow10", laid_internal_strconv_uint64pow10), ("unicode/utf8.acceptRanges", laid_unicode_utf8_acceptRanges), ("strconv.ErrRange", laid_strconv_ErrRange), ("strconv.ErrSyntax", laid_strconv_ErrSyntax), ("innkeeper/printer.names", laid_innkeeper_printer_names), ("unicode/utf8.first", laid_unicode_utf8_first)] }
def VersionsMatchesReferenceSaid : Prop := versionsMatchesReferenceRow.holds Tryz.pinned (OpenSpec.ofChange versionsMatchesReferenceSpec)

/-- ITS FALSE NEIGHBOUR: 'it returns false'. Refute it at one input. -/
def versionsMatchesReferenceWrong : ChangeSpec := { name := "versionsMatchesReference", fn := fun _ => fun
  | [d1, d2, d3, d4, d5] => { results := [.lit (.bool false)], args := [d1, d2, d3, d4, d5] }
  | _ => none }
def VersionsMatchesReferenceWrongFalsely : Prop := versionsMatchesReferenceRow.holds Tryz.pinned (OpenSpec.ofChange versionsMatchesReferenceWrong)

/-- 'innkeeperlaw15.VersionsForce': WHATEVER THE INPUT: true; the input reads as it did. -/
def versionsForceSpec : ChangeSpec := { name := "versionsForce", fn := fun _ => fun
  | [d1, d2, d3] => { results := [.lit (.bool true)], args := [d1, d2, d3] }
  | _ => none }
def versionsForceRow : OpenClaim := { program := "ytnepkoepbapgeaagreatdoor", sum := "27aae553f6f95fd36420a10d00fbcc76692cdec796fb337e64a2777e856580da", func := "innkeeper/innkeeperlaw15.VersionsForce", spec := "versionsForce", inPlace := ["internal/bytealg.IndexByteString", "internal/bytealg.IndexString", "internal/bytealg.CountString", "internal/abi.NoEscape", "internal/bytealg.MakeNoZero"], unfollowed := true, recurses := true, named := ["internal/bytealg.MaxLen", "unicode/utf8.first", "unicode/utf8.acceptRanges", "strconv.ErrSyntax", "strconv.ErrRange", "internal/strconv.uint64pow10", "math/bits.deBruijn32tab", "math/bits.deBruijn64tab", "innkeeper/printer.names"], loops := true, apart := false, laid := [("math/bits.deBruijn32tab", laid_math_bits_deBruijn32tab), ("math/bits.deBruijn64tab", laid_math_bits_deBruijn64tab), ("internal/strconv.uint64pow10", laid_internal_strconv_uint64pow10), ("unicode/utf8.acceptRanges", laid_unicode_utf8_acceptRanges), ("strconv.ErrRange", laid_strconv_ErrRange), ("strconv.ErrSyntax", laid_strconv_ErrSyntax), ("innkeeper/printer.names", laid_innkeeper_printer_names), ("unicode/utf8.first", laid_unicode_utf8_first)] }
def VersionsForceSaid : Prop := versionsForceRow.holds Tryz.pinned (OpenSpec.ofChange versionsForceSpec)

/-- ITS FALSE NEIGHBOUR: 'it returns false'. Refute it at one input. -/
def versionsForceWrong : ChangeSpec := { name := "versionsForce", fn := fun _ => fun
  | [d1, d2, d3] => { results := [.lit (.bool false)], args := [d1, d2, d3] }
  | _ => none }
def VersionsForceWrongFalsely : Prop := versionsForceRow.holds Tryz.pinned (OpenSpec.ofChange versionsForceWrong)

/-- 'innkeeperlaw15.VersionsPush': WHATEVER THE INPUT: true; the input reads as it did. -/
def versionsPushSpec : ChangeSpec := { name := "versionsPush", fn := fun _ => fun
  | [d1, d2, d3, d4] => { results := [.lit (.bool true)], args := [d1, d2, d3, d4] }
  | _ => none }
def versionsPushRow : OpenClaim := { program := "ytnepkoepbapgeaagreatdoor", sum := "27aae553f6f95fd36420a10d00fbcc76692cdec796fb337e64a2777e856580da", func := "innkeeper/innkeeperlaw15.VersionsPush", spec := "versionsPush", inPlace := ["internal/bytealg.IndexByteString", "internal/bytealg.IndexString", "internal/bytealg.CountString", "internal/abi.NoEscape", "internal/bytealg.MakeNoZero"], unfollowed := true, recurses := true, named := ["internal/bytealg.MaxLen", "unicode/utf8.first", "unicode/utf8.acceptRanges", "strconv.ErrSyntax", "strconv.ErrRange", "internal/strconv.uint64pow10", "math/bits.deBruijn32tab", "math/bits.deBruijn64tab", "innkeeper/printer.names"], loops := true, apart := false, laid := [("math/bits.deBruijn32tab", laid_math_bits_deBruijn32tab), ("math/bits.deBruijn64tab", laid_math_bits_deBruijn64tab), ("internal/strconv.uint64pow10", laid_internal_strconv_uint64pow10), ("unicode/utf8.acceptRanges", laid_unicode_utf8_acceptRanges), ("strconv.ErrRange", laid_strconv_ErrRange), ("strconv.ErrSyntax", laid_strconv_ErrSyntax), ("innkeeper/printer.names", laid_innkeeper_printer_names), ("unicode/utf8.first", laid_unicode_utf8_first)] }
def VersionsPushSaid : Prop := versionsPushRow.holds Tryz.pinned (OpenSpec.ofChange versionsPushSpec)

/-- ITS FALSE NEIGHBOUR: 'it returns false'. Refute it at one input. -/
def versionsPushWrong : ChangeSpec := { name := "versionsPush", fn := fun _ => fun
  | [d1, d2, d3, d4] => { results := [.lit (.bool false)], args := [d1, d2, d3, d4] }
  | _ => none }
def VersionsPushWrongFalsely : Prop := versionsPushRow.holds Tryz.pinned (OpenSpec.ofChange versionsPushWrong)

/-- 'innkeeperlaw15.VersionsHonour': WHATEVER THE INPUT: true; the input reads as it did. -/
def versionsHonourSpec : ChangeSpec := { name := "versionsHonour", fn := fun _ => fun
  | [d1, d2, d3, d4, d5, d6] => { results := [.lit (.bool true)], args := [d1, d2, d3, d4, d5, d6] }
  | _ => none }
def versionsHonourRow : OpenClaim := { program := "ytnepkoepbapgeaagreatdoor", sum := "27aae553f6f95fd36420a10d00fbcc76692cdec796fb337e64a2777e856580da", func := "innkeeper/innkeeperlaw15.VersionsHonour", spec := "versionsHonour", inPlace := ["internal/bytealg.IndexByteString", "internal/bytealg.IndexString", "internal/bytealg.CountString", "internal/abi.NoEscape", "internal/bytealg.MakeNoZero"], unfollowed := true, recurses := true, named := ["internal/bytealg.MaxLen", "unicode/utf8.first", "unicode/utf8.acceptRanges", "strconv.ErrSyntax", "strconv.ErrRange", "internal/strconv.uint64pow10", "math/bits.deBruijn32tab", "math/bits.deBruijn64tab", "innkeeper/printer.names"], loops := true, apart := false, laid := [("math/bits.deBruijn32tab", laid_math_bits_deBruijn32tab), ("math/bits.deBruijn64tab", laid_math_bits_deBruijn64tab), ("internal/strconv.uint64pow10", laid_internal_strconv_uint64pow10), ("unicode/utf8.acceptRanges", laid_unicode_utf8_acceptRanges), ("strconv.ErrRange", laid_strconv_ErrRange), ("strconv.ErrSyntax", laid_strconv_ErrSyntax), ("innkeeper/printer.names", laid_innkeeper_printer_names), ("unicode/utf8.first", laid_unicode_utf8_first)] }
def VersionsHonourSaid : Prop := versionsHonourRow.holds Tryz.pinned (OpenSpec.ofChange versionsHonourSpec)

/-- ITS FALSE NEIGHBOUR: 'it returns false'. Refute it at one input. -/
def versionsHonourWrong : ChangeSpec := { name := "versionsHonour", fn := fun _ => fun
  | [d1, d2, d3, d4, d5, d6] => { results := [.lit (.bool false)], args := [d1, d2, d3, d4, d5, d6] }
  | _ => none }
def VersionsHonourWrongFalsely : Prop := versionsHonourRow.holds Tryz.pinned (OpenSpec.ofChange versionsHonourWrong)

/-- 'innkeeperlaw15.VersionsOthers': WHATEVER THE INPUT: true; the input reads as it did. -/
def versionsOthersSpec : ChangeSpec := { name := "versionsOthers", fn := fun _ => fun
  | [d1, d2, d3, d4, d5, d6] => { results := [.lit (.bool true)], args := [d1, d2, d3, d4, d5, d6] }
  | _ => none }
def versionsOthersRow : OpenClaim := { program := "ytnepkoepbapgeaagreatdoor", sum := "27aae553f6f95fd36420a10d00fbcc76692cdec796fb337e64a2777e856580da", func := "innkeeper/innkeeperlaw15.VersionsOthers", spec := "versionsOthers", inPlace := ["internal/bytealg.IndexByteString", "internal/bytealg.IndexString", "internal/bytealg.CountString", "internal/abi.NoEscape", "internal/bytealg.MakeNoZero"], unfollowed := true, recurses := true, named := ["internal/bytealg.MaxLen", "unicode/utf8.first", "unicode/utf8.acceptRanges", "strconv.ErrSyntax", "strconv.ErrRange", "internal/strconv.uint64pow10", "math/bits.deBruijn32tab", "math/bits.deBruijn64tab", "innkeeper/printer.names"], loops := true, apart := false, laid := [("math/bits.deBruijn32tab", laid_math_bits_deBruijn32tab), ("math/bits.deBruijn64tab", laid_math_bits_deBruijn64tab), ("internal/strconv.uint64pow10", laid_internal_strconv_uint64pow10), ("unicode/utf8.acceptRanges", laid_unicode_utf8_acceptRanges), ("strconv.ErrRange", laid_strconv_ErrRange), ("strconv.ErrSyntax", laid_strconv_ErrSyntax), ("innkeeper/printer.names", laid_innkeeper_printer_names), ("unicode/utf8.first", laid_unicode_utf8_first)] }
def VersionsOthersSaid : Prop := versionsOthersRow.holds Tryz.pinned (OpenSpec.ofChange versionsOthersSpec)

/-- ITS FALSE NEIGHBOUR: 'it returns false'. Refute it at one input. -/
def versionsOthersWrong : ChangeSpec := { name := "versionsOthers", fn := fun _ => fun
  | [d1, d2, d3, d4, d5, d6] => { results := [.lit (.bool false)], args := [d1, d2, d3, d4, d5, d6] }
  | _ => none }
def VersionsOthersWrongFalsely : Prop := versionsOthersRow.holds Tryz.pinned (OpenSpec.ofChange versionsOthersWrong)

/- THE SECOND FORM. 'bulk': how many values and letters a reading holds, each counted each time it is reached (what is shared counts as often as it is met; a slice's spare places count too). A statement '..UptoSaid' is the law's where the arguments, and the package variables that the reading takes, are together of bulk at most 1048576: NARROWER than '..Said'. Prove '..Said' where nothing that the law and all that it calls make is longer than what came in: it says more and counts as full. Else prove '..UptoSaid'. A law counts once. -/
mutual
def uptoBulk {H : Type} : DataW H → Nat
  | .lit (.string bytes) => bytes.length + 1
  | .lit _ => 1
  | .nil => 1
  | .ptr d => uptoBulk d + 1
  | .slice elems spare => uptoBulkAll elems + uptoBulkAll spare + 1
  | .agg parts => uptoBulkAll parts + 1
  | .iface _ d => uptoBulk d + 1
  | .map entries => uptoBulkEntries entries + 1
  | .held _ => 1
def uptoBulkAll {H : Type} : List (DataW H) → Nat
  | [] => 0
  | d :: r => uptoBulk d + uptoBulkAll r
def uptoBulkEntries {H : Type} : List (Lit × DataW H) → Nat
  | [] => 0
  | x :: r => uptoBulkEntry x + uptoBulkEntries r
def uptoBulkEntry {H : Type} : Lit × DataW H → Nat
  | (.string bytes, d) => bytes.length + uptoBulk d + 1
  | (_, d) => uptoBulk d + 1
 end
def uptoSmall : (H : Type) → List (DataW H) → Bool := fun _ ds => decide (uptoBulkAll ds ≤ 1048576)
def OpenSpec.upto (s : _root_.Go.ChangeSpec) : _root_.Go.OpenSpec := { _root_.Go.OpenSpec.ofChange s with cond := some uptoSmall }

/-- 'innkeeperlaw12.QuoteMatchesReference', WHERE WHAT IT READS IS OF BULK AT MOST 1048576: true; the input reads as it did. -/
def quoteMatchesReferenceUptoRow : OpenClaim := { program := "ytnepkoepbapgeaagreatdoor", sum := "27aae553f6f95fd36420a10d00fbcc76692cdec796fb337e64a2777e856580da", func := "innkeeper/innkeeperlaw12.QuoteMatchesReference", spec := "quoteMatchesReference", inPlace := ["internal/bytealg.IndexByteString", "internal/bytealg.IndexString", "internal/bytealg.CountString", "internal/abi.NoEscape", "internal/bytealg.MakeNoZero"], unfollowed := true, recurses := true, named := ["internal/bytealg.MaxLen", "unicode/utf8.first", "unicode/utf8.acceptRanges", "strconv.ErrSyntax", "strconv.ErrRange", "internal/strconv.uint64pow10", "math/bits.deBruijn32tab", "math/bits.deBruijn64tab", "innkeeper/printer.names"], loops := true, apart := false, laid := [("math/bits.deBruijn32tab", laid_math_bits_deBruijn32tab), ("math/bits.deBruijn64tab", laid_math_bits_deBruijn64tab), ("internal/strconv.uint64pow10", laid_internal_strconv_uint64pow10), ("unicode/utf8.acceptRanges", laid_unicode_utf8_acceptRanges), ("strconv.ErrRange", laid_strconv_ErrRange), ("strconv.ErrSyntax", laid_strconv_ErrSyntax), ("innkeeper/printer.names", laid_innkeeper_printer_names), ("unicode/utf8.first", laid_unicode_utf8_first)], narrowed := true }
def QuoteMatchesReferenceUptoSaid : Prop := quoteMatchesReferenceUptoRow.holds Tryz.pinned (OpenSpec.upto quoteMatchesReferenceSpec)

/-- 'innkeeperlaw12.QuoteHonest', WHERE WHAT IT READS IS OF BULK AT MOST 1048576: true; the input reads as it did. -/
def quoteHonestUptoRow : OpenClaim := { program := "ytnepkoepbapgeaagreatdoor", sum := "27aae553f6f95fd36420a10d00fbcc76692cdec796fb337e64a2777e856580da", func := "innkeeper/innkeeperlaw12.QuoteHonest", spec := "quoteHonest", inPlace := ["internal/bytealg.IndexByteString", "internal/bytealg.IndexString", "internal/bytealg.CountString", "internal/abi.NoEscape", "internal/bytealg.MakeNoZero"], unfollowed := true, recurses := true, named := ["internal/bytealg.MaxLen", "unicode/utf8.first", "unicode/utf8.acceptRanges", "strconv.ErrSyntax", "strconv.ErrRange", "internal/strconv.uint64pow10", "math/bits.deBruijn32tab", "math/bits.deBruijn64tab", "innkeeper/printer.names"], loops := true, apart := false, laid := [("math/bits.deBruijn32tab", laid_math_bits_deBruijn32tab), ("math/bits.deBruijn64tab", laid_math_bits_deBruijn64tab), ("internal/strconv.uint64pow10", laid_internal_strconv_uint64pow10), ("unicode/utf8.acceptRanges", laid_unicode_utf8_acceptRanges), ("strconv.ErrRange", laid_strconv_ErrRange), ("strconv.ErrSyntax", laid_strconv_ErrSyntax), ("innkeeper/printer.names", laid_innkeeper_printer_names), ("unicode/utf8.first", laid_unicode_utf8_first)], narrowed := true }
def QuoteHonestUptoSaid : Prop := quoteHonestUptoRow.holds Tryz.pinned (OpenSpec.upto quoteHonestSpec)

/-- 'innkeeperlaw12.QuoteAgain', WHERE WHAT IT READS IS OF BULK AT MOST 1048576: true; the input reads as it did. -/
def quoteAgainUptoRow : OpenClaim := { program := "ytnepkoepbapgeaagreatdoor", sum := "27aae553f6f95fd36420a10d00fbcc76692cdec796fb337e64a2777e856580da", func := "innkeeper/innkeeperlaw12.QuoteAgain", spec := "quoteAgain", inPlace := ["internal/bytealg.IndexByteString", "internal/bytealg.IndexString", "internal/bytealg.CountString", "internal/abi.NoEscape", "internal/bytealg.MakeNoZero"], unfollowed := true, recurses := true, named := ["internal/bytealg.MaxLen", "unicode/utf8.first", "unicode/utf8.acceptRanges", "strconv.ErrSyntax", "strconv.ErrRange", "internal/strconv.uint64pow10", "math/bits.deBruijn32tab", "math/bits.deBruijn64tab", "innkeeper/printer.names"], loops := true, apart := false, laid := [("math/bits.deBruijn32tab", laid_math_bits_deBruijn32tab), ("math/bits.deBruijn64tab", laid_math_bits_deBruijn64tab), ("internal/strconv.uint64pow10", laid_internal_strconv_uint64pow10), ("unicode/utf8.acceptRanges", laid_unicode_utf8_acceptRanges), ("strconv.ErrRange", laid_strconv_ErrRange), ("strconv.ErrSyntax", laid_strconv_ErrSyntax), ("innkeeper/printer.names", laid_innkeeper_printer_names), ("unicode/utf8.first", laid_unicode_utf8_first)], narrowed := true }
def QuoteAgainUptoSaid : Prop := quoteAgainUptoRow.holds Tryz.pinned (OpenSpec.upto quoteAgainSpec)

/-- 'innkeeperlaw12.QuoteChanged', WHERE WHAT IT READS IS OF BULK AT MOST 1048576: true; the input reads as it did. -/
def quoteChangedUptoRow : OpenClaim := { program := "ytnepkoepbapgeaagreatdoor", sum := "27aae553f6f95fd36420a10d00fbcc76692cdec796fb337e64a2777e856580da", func := "innkeeper/innkeeperlaw12.QuoteChanged", spec := "quoteChanged", inPlace := ["internal/bytealg.IndexByteString", "internal/bytealg.IndexString", "internal/bytealg.CountString", "internal/abi.NoEscape", "internal/bytealg.MakeNoZero"], unfollowed := true, recurses := true, named := ["internal/bytealg.MaxLen", "unicode/utf8.first", "unicode/utf8.acceptRanges", "strconv.ErrSyntax", "strconv.ErrRange", "internal/strconv.uint64pow10", "math/bits.deBruijn32tab", "math/bits.deBruijn64tab", "innkeeper/printer.names"], loops := true, apart := false, laid := [("math/bits.deBruijn32tab", laid_math_bits_deBruijn32tab), ("math/bits.deBruijn64tab", laid_math_bits_deBruijn64tab), ("internal/strconv.uint64pow10", laid_internal_strconv_uint64pow10), ("unicode/utf8.acceptRanges", laid_unicode_utf8_acceptRanges), ("strconv.ErrRange", laid_strconv_ErrRange), ("strconv.ErrSyntax", laid_strconv_ErrSyntax), ("innkeeper/printer.names", laid_innkeeper_printer_names), ("unicode/utf8.first", laid_unicode_utf8_first)], narrowed := true }
def QuoteChangedUptoSaid : Prop := quoteChangedUptoRow.holds Tryz.pinned (OpenSpec.upto quoteChangedSpec)

/-- 'innkeeperlaw12.QuoteOrder', WHERE WHAT IT READS IS OF BULK AT MOST 1048576: true; the input reads as it did. -/
def quoteOrderUptoRow : OpenClaim := { program := "ytnepkoepbapgeaagreatdoor", sum := "27aae553f6f95fd36420a10d00fbcc76692cdec796fb337e64a2777e856580da", func := "innkeeper/innkeeperlaw12.QuoteOrder", spec := "quoteOrder", inPlace := ["internal/bytealg.IndexByteString", "internal/bytealg.IndexString", "internal/bytealg.CountString", "internal/abi.NoEscape", "internal/bytealg.MakeNoZero"], unfollowed := true, recurses := true, named := ["internal/bytealg.MaxLen", "unicode/utf8.first", "unicode/utf8.acceptRanges", "strconv.ErrSyntax", "strconv.ErrRange", "internal/strconv.uint64pow10", "math/bits.deBruijn32tab", "math/bits.deBruijn64tab", "innkeeper/printer.names"], loops := true, apart := false, laid := [("math/bits.deBruijn32tab", laid_math_bits_deBruijn32tab), ("math/bits.deBruijn64tab", laid_math_bits_deBruijn64tab), ("internal/strconv.uint64pow10", laid_internal_strconv_uint64pow10), ("unicode/utf8.acceptRanges", laid_unicode_utf8_acceptRanges), ("strconv.ErrRange", laid_strconv_ErrRange), ("strconv.ErrSyntax", laid_strconv_ErrSyntax), ("innkeeper/printer.names", laid_innkeeper_printer_names), ("unicode/utf8.first", laid_unicode_utf8_first)], narrowed := true }
def QuoteOrderUptoSaid : Prop := quoteOrderUptoRow.holds Tryz.pinned (OpenSpec.upto quoteOrderSpec)

/-- 'innkeeperlaw12.QuoteSums', WHERE WHAT IT READS IS OF BULK AT MOST 1048576: true; the input reads as it did. -/
def quoteSumsUptoRow : OpenClaim := { program := "ytnepkoepbapgeaagreatdoor", sum := "27aae553f6f95fd36420a10d00fbcc76692cdec796fb337e64a2777e856580da", func := "innkeeper/innkeeperlaw12.QuoteSums", spec := "quoteSums", inPlace := ["internal/bytealg.IndexByteString", "internal/bytealg.IndexString", "internal/bytealg.CountString", "internal/abi.NoEscape", "internal/bytealg.MakeNoZero"], unfollowed := true, recurses := true, named := ["internal/bytealg.MaxLen", "unicode/utf8.first", "unicode/utf8.acceptRanges", "strconv.ErrSyntax", "strconv.ErrRange", "internal/strconv.uint64pow10", "math/bits.deBruijn32tab", "math/bits.deBruijn64tab", "innkeeper/printer.names"], loops := true, apart := false, laid := [("math/bits.deBruijn32tab", laid_math_bits_deBruijn32tab), ("math/bits.deBruijn64tab", laid_math_bits_deBruijn64tab), ("internal/strconv.uint64pow10", laid_internal_strconv_uint64pow10), ("unicode/utf8.acceptRanges", laid_unicode_utf8_acceptRanges), ("strconv.ErrRange", laid_strconv_ErrRange), ("strconv.ErrSyntax", laid_strconv_ErrSyntax), ("innkeeper/printer.names", laid_innkeeper_printer_names), ("unicode/utf8.first", laid_unicode_utf8_first)], narrowed := true }
def QuoteSumsUptoSaid : Prop := quoteSumsUptoRow.holds Tryz.pinned (OpenSpec.upto quoteSumsSpec)

/-- 'innkeeperlaw15.VersionsMatchesReference', WHERE WHAT IT READS IS OF BULK AT MOST 1048576: true; the input reads as it did. -/
def versionsMatchesReferenceUptoRow : OpenClaim := { program := "ytnepkoepbapgeaagreatdoor", sum := "27aae553f6f95fd36420a10d00fbcc76692cdec796fb337e64a2777e856580da", func := "innkeeper/innkeeperlaw15.VersionsMatchesReference", spec := "versionsMatchesReference", inPlace := ["internal/bytealg.IndexByteString", "internal/bytealg.IndexString", "internal/bytealg.CountString", "internal/abi.NoEscape", "internal/bytealg.MakeNoZero"], unfollowed := true, recurses := true, named := ["internal/bytealg.MaxLen", "unicode/utf8.first", "unicode/utf8.acceptRanges", "strconv.ErrSyntax", "strconv.ErrRange", "internal/strconv.uint64pow10", "math/bits.deBruijn32tab", "math/bits.deBruijn64tab", "innkeeper/printer.names"], loops := true, apart := false, laid := [("math/bits.deBruijn32tab", laid_math_bits_deBruijn32tab), ("math/bits.deBruijn64tab", laid_math_bits_deBruijn64tab), ("internal/strconv.uint64pow10", laid_internal_strconv_uint64pow10), ("unicode/utf8.acceptRanges", laid_unicode_utf8_acceptRanges), ("strconv.ErrRange", laid_strconv_ErrRange), ("strconv.ErrSyntax", laid_strconv_ErrSyntax), ("innkeeper/printer.names", laid_innkeeper_printer_names), ("unicode/utf8.first", laid_unicode_utf8_first)], narrowed := true }
def VersionsMatchesReferenceUptoSaid : Prop := versionsMatchesReferenceUptoRow.holds Tryz.pinned (OpenSpec.upto versionsMatchesReferenceSpec)

/-- 'innkeeperlaw15.VersionsForce', WHERE WHAT IT READS IS OF BULK AT MOST 1048576: true; the input reads as it did. -/
def versionsForceUptoRow : OpenClaim := { program := "ytnepkoepbapgeaagreatdoor", sum := "27aae553f6f95fd36420a10d00fbcc76692cdec796fb337e64a2777e856580da", func := "innkeeper/innkeeperlaw15.VersionsForce", spec := "versionsForce", inPlace := ["internal/bytealg.IndexByteString", "internal/bytealg.IndexString", "internal/bytealg.CountString", "internal/abi.NoEscape", "internal/bytealg.MakeNoZero"], unfollowed := true, recurses := true, named := ["internal/bytealg.MaxLen", "unicode/utf8.first", "unicode/utf8.acceptRanges", "strconv.ErrSyntax", "strconv.ErrRange", "internal/strconv.uint64pow10", "math/bits.deBruijn32tab", "math/bits.deBruijn64tab", "innkeeper/printer.names"], loops := true, apart := false, laid := [("math/bits.deBruijn32tab", laid_math_bits_deBruijn32tab), ("math/bits.deBruijn64tab", laid_math_bits_deBruijn64tab), ("internal/strconv.uint64pow10", laid_internal_strconv_uint64pow10), ("unicode/utf8.acceptRanges", laid_unicode_utf8_acceptRanges), ("strconv.ErrRange", laid_strconv_ErrRange), ("strconv.ErrSyntax", laid_strconv_ErrSyntax), ("innkeeper/printer.names", laid_innkeeper_printer_names), ("unicode/utf8.first", laid_unicode_utf8_first)], narrowed := true }
def VersionsForceUptoSaid : Prop := versionsForceUptoRow.holds Tryz.pinned (OpenSpec.upto versionsForceSpec)

/-- 'innkeeperlaw15.VersionsPush', WHERE WHAT IT READS IS OF BULK AT MOST 1048576: true; the input reads as it did. -/
def versionsPushUptoRow : OpenClaim := { program := "ytnepkoepbapgeaagreatdoor", sum := "27aae553f6f95fd36420a10d00fbcc76692cdec796fb337e64a2777e856580da", func := "innkeeper/innkeeperlaw15.VersionsPush", spec := "versionsPush", inPlace := ["internal/bytealg.IndexByteString", "internal/bytealg.IndexString", "internal/bytealg.CountString", "internal/abi.NoEscape", "internal/bytealg.MakeNoZero"], unfollowed := true, recurses := true, named := ["internal/bytealg.MaxLen", "unicode/utf8.first", "unicode/utf8.acceptRanges", "strconv.ErrSyntax", "strconv.ErrRange", "internal/strconv.uint64pow10", "math/bits.deBruijn32tab", "math/bits.deBruijn64tab", "innkeeper/printer.names"], loops := true, apart := false, laid := [("math/bits.deBruijn32tab", laid_math_bits_deBruijn32tab), ("math/bits.deBruijn64tab", laid_math_bits_deBruijn64tab), ("internal/strconv.uint64pow10", laid_internal_strconv_uint64pow10), ("unicode/utf8.acceptRanges", laid_unicode_utf8_acceptRanges), ("strconv.ErrRange", laid_strconv_ErrRange), ("strconv.ErrSyntax", laid_strconv_ErrSyntax), ("innkeeper/printer.names", laid_innkeeper_printer_names), ("unicode/utf8.first", laid_unicode_utf8_first)], narrowed := true }
def VersionsPushUptoSaid : Prop := versionsPushUptoRow.holds Tryz.pinned (OpenSpec.upto versionsPushSpec)

/-- 'innkeeperlaw15.VersionsHonour', WHERE WHAT IT READS IS OF BULK AT MOST 1048576: true; the input reads as it did. -/
def versionsHonourUptoRow : OpenClaim := { program := "ytnepkoepbapgeaagreatdoor", sum := "27aae553f6f95fd36420a10d00fbcc76692cdec796fb337e64a2777e856580da", func := "innkeeper/innkeeperlaw15.VersionsHonour", spec := "versionsHonour", inPlace := ["internal/bytealg.IndexByteString", "internal/bytealg.IndexString", "internal/bytealg.CountString", "internal/abi.NoEscape", "internal/bytealg.MakeNoZero"], unfollowed := true, recurses := true, named := ["internal/bytealg.MaxLen", "unicode/utf8.first", "unicode/utf8.acceptRanges", "strconv.ErrSyntax", "strconv.ErrRange", "internal/strconv.uint64pow10", "math/bits.deBruijn32tab", "math/bits.deBruijn64tab", "innkeeper/printer.names"], loops := true, apart := false, laid := [("math/bits.deBruijn32tab", laid_math_bits_deBruijn32tab), ("math/bits.deBruijn64tab", laid_math_bits_deBruijn64tab), ("internal/strconv.uint64pow10", laid_internal_strconv_uint64pow10), ("unicode/utf8.acceptRanges", laid_unicode_utf8_acceptRanges), ("strconv.ErrRange", laid_strconv_ErrRange), ("strconv.ErrSyntax", laid_strconv_ErrSyntax), ("innkeeper/printer.names", laid_innkeeper_printer_names), ("unicode/utf8.first", laid_unicode_utf8_first)], narrowed := true }
def VersionsHonourUptoSaid : Prop := versionsHonourUptoRow.holds Tryz.pinned (OpenSpec.upto versionsHonourSpec)

/-- 'innkeeperlaw15.VersionsOthers', WHERE WHAT IT READS IS OF BULK AT MOST 1048576: true; the input reads as it did. -/
def versionsOthersUptoRow : OpenClaim := { program := "ytnepkoepbapgeaagreatdoor", sum := "27aae553f6f95fd36420a10d00fbcc76692cdec796fb337e64a2777e856580da", func := "innkeeper/innkeeperlaw15.VersionsOthers", spec := "versionsOthers", inPlace := ["internal/bytealg.IndexByteString", "internal/bytealg.IndexString", "internal/bytealg.CountString", "internal/abi.NoEscape", "internal/bytealg.MakeNoZero"], unfollowed := true, recurses := true, named := ["internal/bytealg.MaxLen", "unicode/utf8.first", "unicode/utf8.acceptRanges", "strconv.ErrSyntax", "strconv.ErrRange", "internal/strconv.uint64pow10", "math/bits.deBruijn32tab", "math/bits.deBruijn64tab", "innkeeper/printer.names"], loops := true, apart := false, laid := [("math/bits.deBruijn32tab", laid_math_bits_deBruijn32tab), ("math/bits.deBruijn64tab", laid_math_bits_deBruijn64tab), ("internal/strconv.uint64pow10", laid_internal_strconv_uint64pow10), ("unicode/utf8.acceptRanges", laid_unicode_utf8_acceptRanges), ("strconv.ErrRange", laid_strconv_ErrRange), ("strconv.ErrSyntax", laid_strconv_ErrSyntax), ("innkeeper/printer.names", laid_innkeeper_printer_names), ("unicode/utf8.first", laid_unicode_utf8_first)], narrowed := true }
def VersionsOthersUptoSaid : Prop := versionsOthersUptoRow.holds Tryz.pinned (OpenSpec.upto versionsOthersSpec)

end Rows
end Go.Proofs.YtnepkoepbapgeaaGreatDoor
