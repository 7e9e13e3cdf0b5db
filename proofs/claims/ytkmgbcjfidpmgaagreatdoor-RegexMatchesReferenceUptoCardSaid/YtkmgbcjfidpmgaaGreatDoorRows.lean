/-
  NARROWER THAN 'FOR EVERY INPUT', by the rows' own cells (each row's printed sentence says how): RegexParseMatchesReference: laid · RegexTextRoundTrip: laid · RegexTextKeepsLanguage: laid · RegexBooleanOperations: laid · RegexConcatenationSplits: laid · RegexRepetitionUnfolds: laid · RegexMatchesReference: laid · RegexEmptyWord: laid · RegexRejectsInvalid: laid.
  DERIVED. THE GIVEN ROWS OF THIS SEAT. 9 by the template 'for every input the law returns true; each argument reads behind the call as it read before'; 0 by the template 'total and deterministic' (their statements: YtkmgbcjfidpmgaaGreatDoorTotals.lean).
  GIVEN WITH THE SEED: the statements are not yours to turn. If you find one false, say at which input.
  Laid BY PROGRAM, IN A SANDBOX (cutbox-rows.mjs): the forced cells as the released guide's own fill.sh prints them over the translation a59fa40c69df01ea… (all of the seat's roots in one cut). By AI agents, Wed Nov 11 2026. No macro, syntax, notation, axiom, sorry.
-/
import Derived.Test.YtkmgbcjfidpmgaaGreatDoorChecked
import GoSem.Claim
import GoSem.ClaimJoined
import GoSem.ClaimMapViews
import Derived.JoinedTies
import Derived.KernelRfl
namespace Go.Proofs.YtkmgbcjfidpmgaaGreatDoor
/- THE CELL 'sum', in the pinned program and in every row, IS THE sha256 OF THE DUMP (.gsa) THAT YtkmgbcjfidpmgaaGreatDoorProg.lean LOADS. Nothing in Lean hashes anything: it is a label: what it is worth is what the hold of that sum in a sandbox is worth. -/
noncomputable def Tryz.pinned : Pinned := { name := "ytkmgbcjfidpmgaagreatdoor", sum := "a59fa40c69df01ea949978fa58755bcefb22754b314abf33f1130322dd9b9e53", checked := Tryz.checked }
namespace Rows
def none {H : Type} : Left H := { results := [], args := [] }

/- WHAT THE LISTED PACKAGE-LEVEL VARIABLES READ AS WHEN THE CALL BEGINS. Each datum BY PROGRAM (the guide's laid-datum.mjs) off the statement by which the dump's own 'gosem.cut.vars' lays the variable. In a bare row this is a premise. The card (YtkmgbcjfidpmgaaGreatDoorCards.lean) ties it to the program's text. -/
def laid_math_bits_deBruijn32tab {H : Type} : DataW H := .agg [.lit (.int .u8 0), .lit (.int .u8 1), .lit (.int .u8 28), .lit (.int .u8 2), .lit (.int .u8 29), .lit (.int .u8 14), .lit (.int .u8 24), .lit (.int .u8 3), .lit (.int .u8 30), .lit (.int .u8 22), .lit (.int .u8 20), .lit (.int .u8 15), .lit (.int .u8 25), .lit (.int .u8 17), .lit (.int .u8 4), .lit (.int .u8 8), .lit (.int .u8 31), .lit (.int .u8 27), .lit (.int .u8 13), .lit (.int .u8 23), .lit (.int .u8 21), .lit (.int .u8 19), .lit (.int .u8 16), .lit (.int .u8 7), .lit (.int .u8 26), .lit (.int .u8 12), .lit (.int .u8 18), .lit (.int .u8 6), .lit (.int .u8 11), .lit (.int .u8 5), .lit (.int .u8 10), .lit (.int .u8 9)]
def laid_math_bits_deBruijn64tab {H : Type} : DataW H := .agg [.lit (.int .u8 0), .lit (.int .u8 1), .lit (.int .u8 56), .lit (.int .u8 2), .lit (.int .u8 57), .lit (.int .u8 49), .lit (.int .u8 28), .lit (.int .u8 3), .lit (.int .u8 61), .lit (.int .u8 58), .lit (.int .u8 42), .lit (.int .u8 50), .lit (.int .u8 38), .lit (.int .u8 29), .lit (.int .u8 17), .lit (.int .u8 4), .lit (.int .u8 62), .lit (.int .u8 47), .lit (.int .u8 59), .lit (.int .u8 36), .lit (.int .u8 45), .lit (.int .u8 43), .lit (.int .u8 51), .lit (.int .u8 22), .lit (.int .u8 53), .lit (.int .u8 39), .lit (.int .u8 33), .lit (.int .u8 30), .lit (.int .u8 24), .lit (.int .u8 18), .lit (.int .u8 12), .lit (.int .u8 5), .lit (.int .u8 63), .lit (.int .u8 55), .lit (.int .u8 48), .lit (.int .u8 27), .lit (.int .u8 60), .lit (.int .u8 41), .lit (.int .u8 37), .lit (.int .u8 16), .lit (.int .u8 46), .lit (.int .u8 35), .lit (.int .u8 44), .lit (.int .u8 21), .lit (.int .u8 52), .lit (.int .u8 32), .lit (.int .u8 23), .lit (.int .u8 11), .lit (.int .u8 54), .lit (.int .u8 26), .lit (.int .u8 40), .lit (.int .u8 15), .lit (.int .u8 34), .lit (.int .u8 20), .lit (.int .u8 31), .lit (.int .u8 10), .lit (.int .u8 25), .lit (.int .u8 14), .lit (.int .u8 19), .lit (.int .u8 9), .lit (.int .u8 13), .lit (.int .u8 8), .lit (.int .u8 7), .lit (.int .u8 6)]
def laid_internal_strconv_uint64pow10 {H : Type} : DataW H := .agg [.lit (.int .u64 1), .lit (.int .u64 10), .lit (.int .u64 100), .lit (.int .u64 1000), .lit (.int .u64 10000), .lit (.int .u64 100000), .lit (.int .u64 1000000), .lit (.int .u64 10000000), .lit (.int .u64 100000000), .lit (.int .u64 1000000000), .lit (.int .u64 10000000000), .lit (.int .u64 100000000000), .lit (.int .u64 1000000000000), .lit (.int .u64 10000000000000), .lit (.int .u64 100000000000000), .lit (.int .u64 1000000000000000), .lit (.int .u64 10000000000000000), .lit (.int .u64 100000000000000000), .lit (.int .u64 1000000000000000000), .lit (.int .u64 10000000000000000000)]
def laid_strconv_ErrRange {H : Type} : DataW H := .iface "*errors.errorString" (.ptr (.agg [.lit (.string [118, 97, 108, 117, 101, 32, 111, 117, 116, 32, 111, 102, 32, 114, 97, 110, 103, 101])]))
def laid_strconv_ErrSyntax {H : Type} : DataW H := .iface "*errors.errorString" (.ptr (.agg [.lit (.string [105, 110, 118, 97, 108, 105, 100, 32, 115, 121, 110, 116, 97, 120])]))

/-- 'univocallaw02.RegexParseMatchesReference': WHATEVER THE INPUT: true; the input reads as it did. -/
def regexParseMatchesReferenceSpec : ChangeSpec := { name := "regexParseMatchesReference", fn := fun _ => fun
  | [d] => { results := [.lit (.bool true)], args := [d] }
  | _ => none }
def regexParseMatchesReferenceRow : OpenClaim := { program := "ytkmgbcjfidpmgaagreatdoor", sum := "a59fa40c69df01ea949978fa58755bcefb22754b314abf33f1130322dd9b9e53", func := "univocal/univocallaw02.RegexParseMatchesReference", spec := "regexParseMatchesReference", inPlace := ["internal/bytealg.IndexByteString", "internal/abi.NoEscape"], unfollowed := true, recurses := true, named := ["strconv.ErrSyntax", "strconv.ErrRange", "internal/strconv.uint64pow10", "math/bits.deBruijn32tab", "math/bits.deBruijn64tab"], plainKeys := false, apart := false, laid := [("math/bits.deBruijn32tab", laid_math_bits_deBruijn32tab), ("math/bits.deBruijn64tab", laid_math_bits_deBruijn64tab), ("internal/strconv.uint64pow10", laid_internal_strconv_uint64pow10), ("strconv.ErrRange", laid_strconv_ErrRange), ("strconv.ErrSyntax", laid_strconv_ErrSyntax)] }
def RegexParseMatchesReferenceSaid : Prop := regexParseMatchesReferenceRow.holds Tryz.pinned (OpenSpec.ofChange regexParseMatchesReferenceSpec)

/-- ITS FALSE NEIGHBOUR: 'it returns false'. Refute it at one input. -/
def regexParseMatchesReferenceWrong : ChangeSpec := { name := "regexParseMatchesReference", fn := fun _ => fun
  | [d] => { results := [.lit (.bool false)], args := [d] }
  | _ => none }
def RegexParseMatchesReferenceWrongFalsely : Prop := regexParseMatchesReferenceRow.holds Tryz.pinned (OpenSpec.ofChange regexParseMatchesReferenceWrong)

/-- 'univocallaw02.RegexTextRoundTrip': WHATEVER THE INPUT: true; the input reads as it did. -/
def regexTextRoundTripSpec : ChangeSpec := { name := "regexTextRoundTrip", fn := fun _ => fun
  | [d1, d2] => { results := [.lit (.bool true)], args := [d1, d2] }
  | _ => none }
def regexTextRoundTripRow : OpenClaim := { program := "ytkmgbcjfidpmgaagreatdoor", sum := "a59fa40c69df01ea949978fa58755bcefb22754b314abf33f1130322dd9b9e53", func := "univocal/univocallaw02.RegexTextRoundTrip", spec := "regexTextRoundTrip", inPlace := ["internal/bytealg.IndexByteString", "internal/abi.NoEscape"], unfollowed := true, recurses := true, named := ["strconv.ErrSyntax", "strconv.ErrRange", "internal/strconv.uint64pow10", "math/bits.deBruijn32tab", "math/bits.deBruijn64tab"], plainKeys := false, apart := false, laid := [("math/bits.deBruijn32tab", laid_math_bits_deBruijn32tab), ("math/bits.deBruijn64tab", laid_math_bits_deBruijn64tab), ("internal/strconv.uint64pow10", laid_internal_strconv_uint64pow10), ("strconv.ErrRange", laid_strconv_ErrRange), ("strconv.ErrSyntax", laid_strconv_ErrSyntax)] }
def RegexTextRoundTripSaid : Prop := regexTextRoundTripRow.holds Tryz.pinned (OpenSpec.ofChange regexTextRoundTripSpec)

/-- ITS FALSE NEIGHBOUR: 'it returns false'. Refute it at one input. -/
def regexTextRoundTripWrong : ChangeSpec := { name := "regexTextRoundTrip", fn := fun _ => fun
  | [d1, d2] => { results := [.lit (.bool false)], args := [d1, d2] }
  | _ => none }
def RegexTextRoundTripWrongFalsely : Prop := regexTextRoundTripRow.holds Tryz.pinned (OpenSpec.ofChange regexTextRoundTripWrong)

/-- 'univocallaw02.RegexTextKeepsLanguage': WHATEVER THE INPUT: true; the input reads as it did. -/
def regexTextKeepsLanguageSpec : ChangeSpec := { name := "regexTextKeepsLanguage", fn := fun _ => fun
  | [d1, d2, d3] => { results := [.lit (.bool true)], args := [d1, d2, d3] }
  | _ => none }
def regexTextKeepsLanguageRow : OpenClaim := { program := "ytkmgbcjfidpmgaagreatdoor", sum := "a59fa40c69df01ea949978fa58755bcefb22754b314abf33f1130322dd9b9e53", func := "univocal/univocallaw02.RegexTextKeepsLanguage", spec := "regexTextKeepsLanguage", inPlace := ["internal/bytealg.IndexByteString", "internal/abi.NoEscape"], unfollowed := true, recurses := true, named := ["strconv.ErrSyntax", "strconv.ErrRange", "internal/strconv.uint64pow10", "math/bits.deBruijn32tab", "math/bits.deBruijn64tab"], plainKeys := false, apart := false, laid := [("math/bits.deBruijn32tab", laid_math_bits_deBruijn32tab), ("math/bits.deBruijn64tab", laid_math_bits_deBruijn64tab), ("internal/strconv.uint64pow10", laid_internal_strconv_uint64pow10), ("strconv.ErrRange", laid_strconv_ErrRange), ("strconv.ErrSyntax", laid_strconv_ErrSyntax)] }
def RegexTextKeepsLanguageSaid : Prop := regexTextKeepsLanguageRow.holds Tryz.pinned (OpenSpec.ofChange regexTextKeepsLanguageSpec)

/-- ITS FALSE NEIGHBOUR: 'it returns false'. Refute it at one input. -/
def regexTextKeepsLanguageWrong : ChangeSpec := { name := "regexTextKeepsLanguage", fn := fun _ => fun
  | [d1, d2, d3] => { results := [.lit (.bool false)], args := [d1, d2, d3] }
  | _ => none }
def RegexTextKeepsLanguageWrongFalsely : Prop := regexTextKeepsLanguageRow.holds Tryz.pinned (OpenSpec.ofChange regexTextKeepsLanguageWrong)

/-- 'univocallaw02.RegexBooleanOperations': WHATEVER THE INPUT: true; the input reads as it did. -/
def regexBooleanOperationsSpec : ChangeSpec := { name := "regexBooleanOperations", fn := fun _ => fun
  | [d1, d2, d3] => { results := [.lit (.bool true)], args := [d1, d2, d3] }
  | _ => none }
def regexBooleanOperationsRow : OpenClaim := { program := "ytkmgbcjfidpmgaagreatdoor", sum := "a59fa40c69df01ea949978fa58755bcefb22754b314abf33f1130322dd9b9e53", func := "univocal/univocallaw02.RegexBooleanOperations", spec := "regexBooleanOperations", inPlace := ["internal/bytealg.IndexByteString", "internal/abi.NoEscape"], unfollowed := true, recurses := true, named := ["strconv.ErrSyntax", "strconv.ErrRange", "internal/strconv.uint64pow10", "math/bits.deBruijn32tab", "math/bits.deBruijn64tab"], plainKeys := false, apart := false, laid := [("math/bits.deBruijn32tab", laid_math_bits_deBruijn32tab), ("math/bits.deBruijn64tab", laid_math_bits_deBruijn64tab), ("internal/strconv.uint64pow10", laid_internal_strconv_uint64pow10), ("strconv.ErrRange", laid_strconv_ErrRange), ("strconv.ErrSyntax", laid_strconv_ErrSyntax)] }
def RegexBooleanOperationsSaid : Prop := regexBooleanOperationsRow.holds Tryz.pinned (OpenSpec.ofChange regexBooleanOperationsSpec)

/-- ITS FALSE NEIGHBOUR: 'it returns false'. Refute it at one input. -/
def regexBooleanOperationsWrong : ChangeSpec := { name := "regexBooleanOperations", fn := fun _ => fun
  | [d1, d2, d3] => { results := [.lit (.bool false)], args := [d1, d2, d3] }
  | _ => none }
def RegexBooleanOperationsWrongFalsely : Prop := regexBooleanOperationsRow.holds Tryz.pinned (OpenSpec.ofChange regexBooleanOperationsWrong)

/-- 'univocallaw02.RegexConcatenationSplits': WHATEVER THE INPUT: true; the input reads as it did. -/
def regexConcatenationSplitsSpec : ChangeSpec := { name := "regexConcatenationSplits", fn := fun _ => fun
  | [d1, d2, d3] => { results := [.lit (.bool true)], args := [d1, d2, d3] }
  | _ => none }
def regexConcatenationSplitsRow : OpenClaim := { program := "ytkmgbcjfidpmgaagreatdoor", sum := "a59fa40c69df01ea949978fa58755bcefb22754b314abf33f1130322dd9b9e53", func := "univocal/univocallaw02.RegexConcatenationSplits", spec := "regexConcatenationSplits", inPlace := ["internal/bytealg.IndexByteString", "internal/abi.NoEscape"], unfollowed := true, recurses := true, named := ["strconv.ErrSyntax", "strconv.ErrRange", "internal/strconv.uint64pow10", "math/bits.deBruijn32tab", "math/bits.deBruijn64tab"], plainKeys := false, apart := false, laid := [("math/bits.deBruijn32tab", laid_math_bits_deBruijn32tab), ("math/bits.deBruijn64tab", laid_math_bits_deBruijn64tab), ("internal/strconv.uint64pow10", laid_internal_strconv_uint64pow10), ("strconv.ErrRange", laid_strconv_ErrRange), ("strconv.ErrSyntax", laid_strconv_ErrSyntax)] }
def RegexConcatenationSplitsSaid : Prop := regexConcatenationSplitsRow.holds Tryz.pinned (OpenSpec.ofChange regexConcatenationSplitsSpec)

/-- ITS FALSE NEIGHBOUR: 'it returns false'. Refute it at one input. -/
def regexConcatenationSplitsWrong : ChangeSpec := { name := "regexConcatenationSplits", fn := fun _ => fun
  | [d1, d2, d3] => { results := [.lit (.bool false)], args := [d1, d2, d3] }
  | _ => none }
def RegexConcatenationSplitsWrongFalsely : Prop := regexConcatenationSplitsRow.holds Tryz.pinned (OpenSpec.ofChange regexConcatenationSplitsWrong)

/-- 'univocallaw02.RegexRepetitionUnfolds': WHATEVER THE INPUT: true; the input reads as it did. -/
def regexRepetitionUnfoldsSpec : ChangeSpec := { name := "regexRepetitionUnfolds", fn := fun _ => fun
  | [d1, d2, d3] => { results := [.lit (.bool true)], args := [d1, d2, d3] }
  | _ => none }
def regexRepetitionUnfoldsRow : OpenClaim := { program := "ytkmgbcjfidpmgaagreatdoor", sum := "a59fa40c69df01ea949978fa58755bcefb22754b314abf33f1130322dd9b9e53", func := "univocal/univocallaw02.RegexRepetitionUnfolds", spec := "regexRepetitionUnfolds", inPlace := ["internal/bytealg.IndexByteString", "internal/abi.NoEscape"], unfollowed := true, recurses := true, named := ["strconv.ErrSyntax", "strconv.ErrRange", "internal/strconv.uint64pow10", "math/bits.deBruijn32tab", "math/bits.deBruijn64tab"], plainKeys := false, apart := false, laid := [("math/bits.deBruijn32tab", laid_math_bits_deBruijn32tab), ("math/bits.deBruijn64tab", laid_math_bits_deBruijn64tab), ("internal/strconv.uint64pow10", laid_internal_strconv_uint64pow10), ("strconv.ErrRange", laid_strconv_ErrRange), ("strconv.ErrSyntax", laid_strconv_ErrSyntax)] }
def RegexRepetitionUnfoldsSaid : Prop := regexRepetitionUnfoldsRow.holds Tryz.pinned (OpenSpec.ofChange regexRepetitionUnfoldsSpec)

/-- ITS FALSE NEIGHBOUR: 'it returns false'. Refute it at one input. -/
def regexRepetitionUnfoldsWrong : ChangeSpec := { name := "regexRepetitionUnfolds", fn := fun _ => fun
  | [d1, d2, d3] => { results := [.lit (.bool false)], args := [d1, d2, d3] }
  | _ => none }
def RegexRepetitionUnfoldsWrongFalsely : Prop := regexRepetitionUnfoldsRow.holds Tryz.pinned (OpenSpec.ofChange regexRepetitionUnfoldsWrong)

/-- 'univocallaw02.RegexMatchesReference': WHATEVER THE INPUT: true; the input reads as it did. -/
def regexMatchesReferenceSpec : ChangeSpec := { name := "regexMatchesReference", fn := fun _ => fun
  | [d1, d2] => { results := [.lit (.bool true)], args := [d1, d2] }
  | _ => none }
def regexMatchesReferenceRow : OpenClaim := { program := "ytkmgbcjfidpmgaagreatdoor", sum := "a59fa40c69df01ea949978fa58755bcefb22754b314abf33f1130322dd9b9e53", func := "univocal/univocallaw02.RegexMatchesReference", spec := "regexMatchesReference", inPlace := ["internal/bytealg.IndexByteString", "internal/abi.NoEscape"], unfollowed := true, recurses := true, named := ["strconv.ErrSyntax", "strconv.ErrRange", "internal/strconv.uint64pow10", "math/bits.deBruijn32tab", "math/bits.deBruijn64tab"], plainKeys := false, apart := false, laid := [("math/bits.deBruijn32tab", laid_math_bits_deBruijn32tab), ("math/bits.deBruijn64tab", laid_math_bits_deBruijn64tab), ("internal/strconv.uint64pow10", laid_internal_strconv_uint64pow10), ("strconv.ErrRange", laid_strconv_ErrRange), ("strconv.ErrSyntax", laid_strconv_ErrSyntax)] }
def RegexMatchesReferenceSaid : Prop := regexMatchesReferenceRow.holds Tryz.pinned (OpenSpec.ofChange regexMatchesReferenceSpec)

/-- ITS FALSE NEIGHBOUR: 'it returns false'. Refute it at one input. -/
def regexMatchesReferenceWrong : ChangeSpec := { name := "regexMatchesReference", fn := fun _ => fun
  | [d1, d2] => { results := [.lit (.bool false)], args := [d1, d2] }
  | _ => none }
def RegexMatchesReferenceWrongFalsely : Prop := regexMatchesReferenceRow.holds Tryz.pinned (OpenSpec.ofChange regexMatchesReferenceWrong)

/-- 'univocallaw02.RegexEmptyWord': WHATEVER THE INPUT: true; the input reads as it did. -/
def regexEmptyWordSpec : ChangeSpec := { name := "regexEmptyWord", fn := fun _ => fun
  | [d1, d2] => { results := [.lit (.bool true)], args := [d1, d2] }
  | _ => none }
def regexEmptyWordRow : OpenClaim := { program := "ytkmgbcjfidpmgaagreatdoor", sum := "a59fa40c69df01ea949978fa58755bcefb22754b314abf33f1130322dd9b9e53", func := "univocal/univocallaw02.RegexEmptyWord", spec := "regexEmptyWord", inPlace := ["internal/bytealg.IndexByteString", "internal/abi.NoEscape"], unfollowed := true, recurses := true, named := ["strconv.ErrSyntax", "strconv.ErrRange", "internal/strconv.uint64pow10", "math/bits.deBruijn32tab", "math/bits.deBruijn64tab"], plainKeys := false, apart := false, laid := [("math/bits.deBruijn32tab", laid_math_bits_deBruijn32tab), ("math/bits.deBruijn64tab", laid_math_bits_deBruijn64tab), ("internal/strconv.uint64pow10", laid_internal_strconv_uint64pow10), ("strconv.ErrRange", laid_strconv_ErrRange), ("strconv.ErrSyntax", laid_strconv_ErrSyntax)] }
def RegexEmptyWordSaid : Prop := regexEmptyWordRow.holds Tryz.pinned (OpenSpec.ofChange regexEmptyWordSpec)

/-- ITS FALSE NEIGHBOUR: 'it returns false'. Refute it at one input. -/
def regexEmptyWordWrong : ChangeSpec := { name := "regexEmptyWord", fn := fun _ => fun
  | [d1, d2] => { results := [.lit (.bool false)], args := [d1, d2] }
  | _ => none }
def RegexEmptyWordWrongFalsely : Prop := regexEmptyWordRow.holds Tryz.pinned (OpenSpec.ofChange regexEmptyWordWrong)

/-- 'univocallaw02.RegexRejectsInvalid': WHATEVER THE INPUT: true; the input reads as it did. -/
def regexRejectsInvalidSpec : ChangeSpec := { name := "regexRejectsInvalid", fn := fun _ => fun
  | [d1, d2, d3] => { results := [.lit (.bool true)], args := [d1, d2, d3] }
  | _ => none }
def regexRejectsInvalidRow : OpenClaim := { program := "ytkmgbcjfidpmgaagreatdoor", sum := "a59fa40c69df01ea949978fa58755bcefb22754b314abf33f1130322dd9b9e53", func := "univocal/univocallaw02.RegexRejectsInvalid", spec := "regexRejectsInvalid", inPlace := ["internal/bytealg.IndexByteString", "internal/abi.NoEscape"], unfollowed := true, recurses := true, named := ["strconv.ErrSyntax", "strconv.ErrRange", "internal/strconv.uint64pow10", "math/bits.deBruijn32tab", "math/bits.deBruijn64tab"], plainKeys := false, apart := false, laid := [("math/bits.deBruijn32tab", laid_math_bits_deBruijn32tab), ("math/bits.deBruijn64tab", laid_math_bits_deBruijn64tab), ("internal/strconv.uint64pow10", laid_internal_strconv_uint64pow10), ("strconv.ErrRange", laid_strconv_ErrRange), ("strconv.ErrSyntax", laid_strconv_ErrSyntax)] }
def RegexRejectsInvalidSaid : Prop := regexRejectsInvalidRow.holds Tryz.pinned (OpenSpec.ofChange regexRejectsInvalidSpec)

/-- ITS FALSE NEIGHBOUR: 'it returns false'. Refute it at one input. -/
def regexRejectsInvalidWrong : ChangeSpec := { name := "regexRejectsInvalid", fn := fun _ => fun
  | [d1, d2, d3] => { results := [.lit (.bool false)], args := [d1, d2, d3] }
  | _ => none }
def RegexRejectsInvalidWrongFalsely : Prop := regexRejectsInvalidRow.holds Tryz.pinned (OpenSpec.ofChange regexRejectsInvalidWrong)

/- THE SECOND FORM. 'bulk': how many values and letters a reading holds, each counted each time it is reached (what is shared counts as often as it is met; a slice's spare places count too). A statement '..UptoSaid' is the law's where the arguments, and the package variables that the reading takes, are together of bulk at most 1048576: NARROWER than '..Said'. Prove '..Said' where nothing that the law and all that it calls make is longer than what came in: it says more and counts as full. Else prove '..UptoSaid'. A law counts once. -/
mutual
def uptoBulk {H : Type} : DataW H → Nat
  | .lit (.string bytes) => bytes.length + 1
  | .lit _ => 1
  | .nil => 1
  | .ptr d => uptoBulk d + 1
  | .slice elems spare => uptoBulkAll elems + uptoBulkAll spare + 1
  | .agg parts => uptoBulkAll parts + 1
  | .iface _ d => uptoBulk d + 1
  | .map entries => uptoBulkEntries entries + 1
  | .held _ => 1
def uptoBulkAll {H : Type} : List (DataW H) → Nat
  | [] => 0
  | d :: r => uptoBulk d + uptoBulkAll r
def uptoBulkEntries {H : Type} : List (Lit × DataW H) → Nat
  | [] => 0
  | x :: r => uptoBulkEntry x + uptoBulkEntries r
def uptoBulkEntry {H : Type} : Lit × DataW H → Nat
  | (.string bytes, d) => bytes.length + uptoBulk d + 1
  | (_, d) => uptoBulk d + 1
 end
def uptoSmall : (H : Type) → List (DataW H) → Bool := fun _ ds => decide (uptoBulkAll ds ≤ 1048576)
def OpenSpec.upto (s : _root_.Go.ChangeSpec) : _root_.Go.OpenSpec := { _root_.Go.OpenSpec.ofChange s with cond := some uptoSmall }

/-- 'univocallaw02.RegexParseMatchesReference', WHERE WHAT IT READS IS OF BULK AT MOST 1048576: true; the input reads as it did. -/
def regexParseMatchesReferenceUptoRow : OpenClaim := { program := "ytkmgbcjfidpmgaagreatdoor", sum := "a59fa40c69df01ea949978fa58755bcefb22754b314abf33f1130322dd9b9e53", func := "univocal/univocallaw02.RegexParseMatchesReference", spec := "regexParseMatchesReference", inPlace := ["internal/bytealg.IndexByteString", "internal/abi.NoEscape"], unfollowed := true, recurses := true, named := ["strconv.ErrSyntax", "strconv.ErrRange", "internal/strconv.uint64pow10", "math/bits.deBruijn32tab", "math/bits.deBruijn64tab"], plainKeys := false, apart := false, laid := [("math/bits.deBruijn32tab", laid_math_bits_deBruijn32tab), ("math/bits.deBruijn64tab", laid_math_bits_deBruijn64tab), ("internal/strconv.uint64pow10", laid_internal_strconv_uint64pow10), ("strconv.ErrRange", laid_strconv_ErrRange), ("strconv.ErrSyntax", laid_strconv_ErrSyntax)], narrowed := true }
def RegexParseMatchesReferenceUptoSaid : Prop := regexParseMatchesReferenceUptoRow.holds Tryz.pinned (OpenSpec.upto regexParseMatchesReferenceSpec)

/-- 'univocallaw02.RegexTextRoundTrip', WHERE WHAT IT READS IS OF BULK AT MOST 1048576: true; the input reads as it did. -/
def regexTextRoundTripUptoRow : OpenClaim := { program := "ytkmgbcjfidpmgaagreatdoor", sum := "a59fa40c69df01ea949978fa58755bcefb22754b314abf33f1130322dd9b9e53", func := "univocal/univocallaw02.RegexTextRoundTrip", spec := "regexTextRoundTrip", inPlace := ["internal/bytealg.IndexByteString", "internal/abi.NoEscape"], unfollowed := true, recurses := true, named := ["strconv.ErrSyntax", "strconv.ErrRange", "internal/strconv.uint64pow10", "math/bits.deBruijn32tab", "math/bits.deBruijn64tab"], plainKeys := false, apart := false, laid := [("math/bits.deBruijn32tab", laid_math_bits_deBruijn32tab), ("math/bits.deBruijn64tab", laid_math_bits_deBruijn64tab), ("internal/strconv.uint64pow10", laid_internal_strconv_uint64pow10), ("strconv.ErrRange", laid_strconv_ErrRange), ("strconv.ErrSyntax", laid_strconv_ErrSyntax)], narrowed := true }
def RegexTextRoundTripUptoSaid : Prop := regexTextRoundTripUptoRow.holds Tryz.pinned (OpenSpec.upto regexTextRoundTripSpec)

/-- 'univocallaw02.RegexTextKeepsLanguage', WHERE WHAT IT READS IS OF BULK AT MOST 1048576: true; the input reads as it did. -/
def regexTextKeepsLanguageUptoRow : OpenClaim := { program := "ytkmgbcjfidpmgaagreatdoor", sum := "a59fa40c69df01ea949978fa58755bcefb22754b314abf33f1130322dd9b9e53", func := "univocal/univocallaw02.RegexTextKeepsLanguage", spec := "regexTextKeepsLanguage", inPlace := ["internal/bytealg.IndexByteString", "internal/abi.NoEscape"], unfollowed := true, recurses := true, named := ["strconv.ErrSyntax", "strconv.ErrRange", "internal/strconv.uint64pow10", "math/bits.deBruijn32tab", "math/bits.deBruijn64tab"], plainKeys := false, apart := false, laid := [("math/bits.deBruijn32tab", laid_math_bits_deBruijn32tab), ("math/bits.deBruijn64tab", laid_math_bits_deBruijn64tab), ("internal/strconv.uint64pow10", laid_internal_strconv_uint64pow10), ("strconv.ErrRange", laid_strconv_ErrRange), ("strconv.ErrSyntax", laid_strconv_ErrSyntax)], narrowed := true }
def RegexTextKeepsLanguageUptoSaid : Prop := regexTextKeepsLanguageUptoRow.holds Tryz.pinned (OpenSpec.upto regexTextKeepsLanguageSpec)

/-- 'univocallaw02.RegexBooleanOperations', WHERE WHAT IT READS IS OF BULK AT MOST 1048576: true; the input reads as it did. -/
def regexBooleanOperationsUptoRow : OpenClaim := { program := "ytkmgbcjfidpmgaagreatdoor", sum := "a59fa40c69df01ea949978fa58755bcefb22754b314abf33f1130322dd9b9e53", func := "univocal/univocallaw02.RegexBooleanOperations", spec := "regexBooleanOperations", inPlace := ["internal/bytealg.IndexByteString", "internal/abi.NoEscape"], unfollowed := true, recurses := true, named := ["strconv.ErrSyntax", "strconv.ErrRange", "internal/strconv.uint64pow10", "math/bits.deBruijn32tab", "math/bits.deBruijn64tab"], plainKeys := false, apart := false, laid := [("math/bits.deBruijn32tab", laid_math_bits_deBruijn32tab), ("math/bits.deBruijn64tab", laid_math_bits_deBruijn64tab), ("internal/strconv.uint64pow10", laid_internal_strconv_uint64pow10), ("strconv.ErrRange", laid_strconv_ErrRange), ("strconv.ErrSyntax", laid_strconv_ErrSyntax)], narrowed := true }
def RegexBooleanOperationsUptoSaid : Prop := regexBooleanOperationsUptoRow.holds Tryz.pinned (OpenSpec.upto regexBooleanOperationsSpec)

/-- 'univocallaw02.RegexConcatenationSplits', WHERE WHAT IT READS IS OF BULK AT MOST 1048576: true; the input reads as it did. -/
def regexConcatenationSplitsUptoRow : OpenClaim := { program := "ytkmgbcjfidpmgaagreatdoor", sum := "a59fa40c69df01ea949978fa58755bcefb22754b314abf33f1130322dd9b9e53", func := "univocal/univocallaw02.RegexConcatenationSplits", spec := "regexConcatenationSplits", inPlace := ["internal/bytealg.IndexByteString", "internal/abi.NoEscape"], unfollowed := true, recurses := true, named := ["strconv.ErrSyntax", "strconv.ErrRange", "internal/strconv.uint64pow10", "math/bits.deBruijn32tab", "math/bits.deBruijn64tab"], plainKeys := false, apart := false, laid := [("math/bits.deBruijn32tab", laid_math_bits_deBruijn32tab), ("math/bits.deBruijn64tab", laid_math_bits_deBruijn64tab), ("internal/strconv.uint64pow10", laid_internal_strconv_uint64pow10), ("strconv.ErrRange", laid_strconv_ErrRange), ("strconv.ErrSyntax", laid_strconv_ErrSyntax)], narrowed := true }
def RegexConcatenationSplitsUptoSaid : Prop := regexConcatenationSplitsUptoRow.holds Tryz.pinned (OpenSpec.upto regexConcatenationSplitsSpec)

/-- 'univocallaw02.RegexRepetitionUnfolds', WHERE WHAT IT READS IS OF BULK AT MOST 1048576: true; the input reads as it did. -/
def regexRepetitionUnfoldsUptoRow : OpenClaim := { program := "ytkmgbcjfidpmgaagreatdoor", sum := "a59fa40c69df01ea949978fa58755bcefb22754b314abf33f1130322dd9b9e53", func := "univocal/univocallaw02.RegexRepetitionUnfolds", spec := "regexRepetitionUnfolds", inPlace := ["internal/bytealg.IndexByteString", "internal/abi.NoEscape"], unfollowed := true, recurses := true, named := ["strconv.ErrSyntax", "strconv.ErrRange", "internal/strconv.uint64pow10", "math/bits.deBruijn32tab", "math/bits.deBruijn64tab"], plainKeys := false, apart := false, laid := [("math/bits.deBruijn32tab", laid_math_bits_deBruijn32tab), ("math/bits.deBruijn64tab", laid_math_bits_deBruijn64tab), ("internal/strconv.uint64pow10", laid_internal_strconv_uint64pow10), ("strconv.ErrRange", laid_strconv_ErrRange), ("strconv.ErrSyntax", laid_strconv_ErrSyntax)], narrowed := true }
def RegexRepetitionUnfoldsUptoSaid : Prop := regexRepetitionUnfoldsUptoRow.holds Tryz.pinned (OpenSpec.upto regexRepetitionUnfoldsSpec)

/-- 'univocallaw02.RegexMatchesReference', WHERE WHAT IT READS IS OF BULK AT MOST 1048576: true; the input reads as it did. -/
def regexMatchesReferenceUptoRow : OpenClaim := { program := "ytkmgbcjfidpmgaagreatdoor", sum := "a59fa40c69df01ea949978fa58755bcefb22754b314abf33f1130322dd9b9e53", func := "univocal/univocallaw02.RegexMatchesReference", spec := "regexMatchesReference", inPlace := ["internal/bytealg.IndexByteString", "internal/abi.NoEscape"], unfollowed := true, recurses := true, named := ["strconv.ErrSyntax", "strconv.ErrRange", "internal/strconv.uint64pow10", "math/bits.deBruijn32tab", "math/bits.deBruijn64tab"], plainKeys := false, apart := false, laid := [("math/bits.deBruijn32tab", laid_math_bits_deBruijn32tab), ("math/bits.deBruijn64tab", laid_math_bits_deBruijn64tab), ("internal/strconv.uint64pow10", laid_internal_strconv_uint64pow10), ("strconv.ErrRange", laid_strconv_ErrRange), ("strconv.ErrSyntax", laid_strconv_ErrSyntax)], narrowed := true }
def RegexMatchesReferenceUptoSaid : Prop := regexMatchesReferenceUptoRow.holds Tryz.pinned (OpenSpec.upto regexMatchesReferenceSpec)

/-- 'univocallaw02.RegexEmptyWord', WHERE WHAT IT READS IS OF BULK AT MOST 1048576: true; the input reads as it did. -/
def regexEmptyWordUptoRow : OpenClaim := { program := "ytkmgbcjfidpmgaagreatdoor", sum := "a59fa40c69df01ea949978fa58755bcefb22754b314abf33f1130322dd9b9e53", func := "univocal/univocallaw02.RegexEmptyWord", spec := "regexEmptyWord", inPlace := ["internal/bytealg.IndexByteString", "internal/abi.NoEscape"], unfollowed := true, recurses := true, named := ["strconv.ErrSyntax", "strconv.ErrRange", "internal/strconv.uint64pow10", "math/bits.deBruijn32tab", "math/bits.deBruijn64tab"], plainKeys := false, apart := false, laid := [("math/bits.deBruijn32tab", laid_math_bits_deBruijn32tab), ("math/bits.deBruijn64tab", laid_math_bits_deBruijn64tab), ("internal/strconv.uint64pow10", laid_internal_strconv_uint64pow10), ("strconv.ErrRange", laid_strconv_ErrRange), ("strconv.ErrSyntax", laid_strconv_ErrSyntax)], narrowed := true }
def RegexEmptyWordUptoSaid : Prop := regexEmptyWordUptoRow.holds Tryz.pinned (OpenSpec.upto regexEmptyWordSpec)

/-- 'univocallaw02.RegexRejectsInvalid', WHERE WHAT IT READS IS OF BULK AT MOST 1048576: true; the input reads as it did. -/
def regexRejectsInvalidUptoRow : OpenClaim := { program := "ytkmgbcjfidpmgaagreatdoor", sum := "a59fa40c69df01ea949978fa58755bcefb22754b314abf33f1130322dd9b9e53", func := "univocal/univocallaw02.RegexRejectsInvalid", spec := "regexRejectsInvalid", inPlace := ["internal/bytealg.IndexByteString", "internal/abi.NoEscape"], unfollowed := true, recurses := true, named := ["strconv.ErrSyntax", "strconv.ErrRange", "internal/strconv.uint64pow10", "math/bits.deBruijn32tab", "math/bits.deBruijn64tab"], plainKeys := false, apart := false, laid := [("math/bits.deBruijn32tab", laid_math_bits_deBruijn32tab), ("math/bits.deBruijn64tab", laid_math_bits_deBruijn64tab), ("internal/strconv.uint64pow10", laid_internal_strconv_uint64pow10), ("strconv.ErrRange", laid_strconv_ErrRange), ("strconv.ErrSyntax", laid_strconv_ErrSyntax)], narrowed := true }
def RegexRejectsInvalidUptoSaid : Prop := regexRejectsInvalidUptoRow.holds Tryz.pinned (OpenSpec.upto regexRejectsInvalidSpec)

end Rows
end Go.Proofs.YtkmgbcjfidpmgaaGreatDoor
