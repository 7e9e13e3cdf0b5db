/-
  NARROWER THAN 'FOR EVERY INPUT', by the rows' own cells (each row's printed sentence says how): PlannerMatchesReference: laid · PlannerErrorsMatchReference: laid · PlannerBestIsSafe: laid · PlannerNoPlanIsBetter: laid · PlannerDependsOnPairs: laid · PlannerMoreCertificatesHelp: laid · PlannerReverses: laid.
  DERIVED. THE GIVEN ROWS OF THIS SEAT. 7 by the template 'for every input the law returns true; each argument reads behind the call as it read before'; 0 by the template 'total and deterministic' (their statements: YtngdgnolkilheaaGreatDoorTotals.lean).
  GIVEN WITH THE SEED: the statements are not yours to turn. If you find one false, say at which input.
  Laid BY PROGRAM, IN A SANDBOX (cutbox-rows.mjs): the forced cells as the released guide's own fill.sh prints them over the translation e046ff67cfc8dfeb… (all of the seat's roots in one cut). By AI agents, Wed Nov 11 2026. No macro, syntax, notation, axiom, sorry.
-/
import Derived.Test.YtngdgnolkilheaaGreatDoorChecked
import GoSem.Claim
import GoSem.ClaimJoined
import GoSem.ClaimMapViews
import Derived.JoinedTies
import Derived.KernelRfl
namespace Go.Proofs.YtngdgnolkilheaaGreatDoor
/- THE CELL 'sum', in the pinned program and in every row, IS THE sha256 OF THE DUMP (.gsa) THAT YtngdgnolkilheaaGreatDoorProg.lean LOADS. Nothing in Lean hashes anything: it is a label: what it is worth is what the hold of that sum in a sandbox is worth. -/
noncomputable def Tryz.pinned : Pinned := { name := "ytngdgnolkilheaagreatdoor", sum := "e046ff67cfc8dfeb61998a8b625e08358f47be70ea5cc8cae57def3651990874", checked := Tryz.checked }
namespace Rows
def none {H : Type} : Left H := { results := [], args := [] }

/- WHAT THE LISTED PACKAGE-LEVEL VARIABLES READ AS WHEN THE CALL BEGINS. Each datum BY PROGRAM (the guide's laid-datum.mjs) off the statement by which the dump's own 'gosem.cut.vars' lays the variable. In a bare row this is a premise. The card (YtngdgnolkilheaaGreatDoorCards.lean) ties it to the program's text. -/
def laid_math_bits_deBruijn64tab {H : Type} : DataW H := .agg [.lit (.int .u8 0), .lit (.int .u8 1), .lit (.int .u8 56), .lit (.int .u8 2), .lit (.int .u8 57), .lit (.int .u8 49), .lit (.int .u8 28), .lit (.int .u8 3), .lit (.int .u8 61), .lit (.int .u8 58), .lit (.int .u8 42), .lit (.int .u8 50), .lit (.int .u8 38), .lit (.int .u8 29), .lit (.int .u8 17), .lit (.int .u8 4), .lit (.int .u8 62), .lit (.int .u8 47), .lit (.int .u8 59), .lit (.int .u8 36), .lit (.int .u8 45), .lit (.int .u8 43), .lit (.int .u8 51), .lit (.int .u8 22), .lit (.int .u8 53), .lit (.int .u8 39), .lit (.int .u8 33), .lit (.int .u8 30), .lit (.int .u8 24), .lit (.int .u8 18), .lit (.int .u8 12), .lit (.int .u8 5), .lit (.int .u8 63), .lit (.int .u8 55), .lit (.int .u8 48), .lit (.int .u8 27), .lit (.int .u8 60), .lit (.int .u8 41), .lit (.int .u8 37), .lit (.int .u8 16), .lit (.int .u8 46), .lit (.int .u8 35), .lit (.int .u8 44), .lit (.int .u8 21), .lit (.int .u8 52), .lit (.int .u8 32), .lit (.int .u8 23), .lit (.int .u8 11), .lit (.int .u8 54), .lit (.int .u8 26), .lit (.int .u8 40), .lit (.int .u8 15), .lit (.int .u8 34), .lit (.int .u8 20), .lit (.int .u8 31), .lit (.int .u8 10), .lit (.int .u8 25), .lit (.int .u8 14), .lit (.int .u8 19), .lit (.int .u8 9), .lit (.int .u8 13), .lit (.int .u8 8), .lit (.int .u8 7), .lit (.int .u8 6)]

/-- 'univocallaw31.PlannerMatchesReference': WHATEVER THE INPUT: true; the input reads as it did. -/
def plannerMatchesReferenceSpec : ChangeSpec := { name := "plannerMatchesReference", fn := fun _ => fun
  | [d1, d2, d3] => { results := [.lit (.bool true)], args := [d1, d2, d3] }
  | _ => none }
def plannerMatchesReferenceRow : OpenClaim := { program := "ytngdgnolkilheaagreatdoor", sum := "e046ff67cfc8dfeb61998a8b625e08358f47be70ea5cc8cae57def3651990874", func := "univocal/univocallaw31.PlannerMatchesReference", spec := "plannerMatchesReference", unfollowed := true, recurses := true, named := ["math/bits.deBruijn64tab"], plainKeys := false, apart := false, laid := [("math/bits.deBruijn64tab", laid_math_bits_deBruijn64tab)] }
def PlannerMatchesReferenceSaid : Prop := plannerMatchesReferenceRow.holds Tryz.pinned (OpenSpec.ofChange plannerMatchesReferenceSpec)

/-- ITS FALSE NEIGHBOUR: 'it returns false'. Refute it at one input. -/
def plannerMatchesReferenceWrong : ChangeSpec := { name := "plannerMatchesReference", fn := fun _ => fun
  | [d1, d2, d3] => { results := [.lit (.bool false)], args := [d1, d2, d3] }
  | _ => none }
def PlannerMatchesReferenceWrongFalsely : Prop := plannerMatchesReferenceRow.holds Tryz.pinned (OpenSpec.ofChange plannerMatchesReferenceWrong)

/-- 'univocallaw31.PlannerErrorsMatchReference': WHATEVER THE INPUT: true; the input reads as it did. -/
def plannerErrorsMatchReferenceSpec : ChangeSpec := { name := "plannerErrorsMatchReference", fn := fun _ => fun
  | [d1, d2, d3] => { results := [.lit (.bool true)], args := [d1, d2, d3] }
  | _ => none }
def plannerErrorsMatchReferenceRow : OpenClaim := { program := "ytngdgnolkilheaagreatdoor", sum := "e046ff67cfc8dfeb61998a8b625e08358f47be70ea5cc8cae57def3651990874", func := "univocal/univocallaw31.PlannerErrorsMatchReference", spec := "plannerErrorsMatchReference", unfollowed := true, recurses := true, named := ["math/bits.deBruijn64tab"], plainKeys := false, apart := false, laid := [("math/bits.deBruijn64tab", laid_math_bits_deBruijn64tab)] }
def PlannerErrorsMatchReferenceSaid : Prop := plannerErrorsMatchReferenceRow.holds Tryz.pinned (OpenSpec.ofChange plannerErrorsMatchReferenceSpec)

/-- ITS FALSE NEIGHBOUR: 'it returns false'. Refute it at one input. -/
def plannerErrorsMatchReferenceWrong : ChangeSpec := { name := "plannerErrorsMatchReference", fn := fun _ => fun
  | [d1, d2, d3] => { results := [.lit (.bool false)], args := [d1, d2, d3] }
  | _ => none }
def PlannerErrorsMatchReferenceWrongFalsely : Prop := plannerErrorsMatchReferenceRow.holds Tryz.pinned (OpenSpec.ofChange plannerErrorsMatchReferenceWrong)

/-- 'univocallaw31.PlannerBestIsSafe': WHATEVER THE INPUT: true; the input reads as it did. -/
def plannerBestIsSafeSpec : ChangeSpec := { name := "plannerBestIsSafe", fn := fun _ => fun
  | [d] => { results := [.lit (.bool true)], args := [d] }
  | _ => none }
def plannerBestIsSafeRow : OpenClaim := { program := "ytngdgnolkilheaagreatdoor", sum := "e046ff67cfc8dfeb61998a8b625e08358f47be70ea5cc8cae57def3651990874", func := "univocal/univocallaw31.PlannerBestIsSafe", spec := "plannerBestIsSafe", unfollowed := true, recurses := true, named := ["math/bits.deBruijn64tab"], plainKeys := false, apart := false, laid := [("math/bits.deBruijn64tab", laid_math_bits_deBruijn64tab)] }
def PlannerBestIsSafeSaid : Prop := plannerBestIsSafeRow.holds Tryz.pinned (OpenSpec.ofChange plannerBestIsSafeSpec)

/-- ITS FALSE NEIGHBOUR: 'it returns false'. Refute it at one input. -/
def plannerBestIsSafeWrong : ChangeSpec := { name := "plannerBestIsSafe", fn := fun _ => fun
  | [d] => { results := [.lit (.bool false)], args := [d] }
  | _ => none }
def PlannerBestIsSafeWrongFalsely : Prop := plannerBestIsSafeRow.holds Tryz.pinned (OpenSpec.ofChange plannerBestIsSafeWrong)

/-- 'univocallaw31.PlannerNoPlanIsBetter': WHATEVER THE INPUT: true; the input reads as it did. -/
def plannerNoPlanIsBetterSpec : ChangeSpec := { name := "plannerNoPlanIsBetter", fn := fun _ => fun
  | [d1, d2] => { results := [.lit (.bool true)], args := [d1, d2] }
  | _ => none }
def plannerNoPlanIsBetterRow : OpenClaim := { program := "ytngdgnolkilheaagreatdoor", sum := "e046ff67cfc8dfeb61998a8b625e08358f47be70ea5cc8cae57def3651990874", func := "univocal/univocallaw31.PlannerNoPlanIsBetter", spec := "plannerNoPlanIsBetter", unfollowed := true, recurses := true, named := ["math/bits.deBruijn64tab"], plainKeys := false, apart := false, laid := [("math/bits.deBruijn64tab", laid_math_bits_deBruijn64tab)] }
def PlannerNoPlanIsBetterSaid : Prop := plannerNoPlanIsBetterRow.holds Tryz.pinned (OpenSpec.ofChange plannerNoPlanIsBetterSpec)

/-- ITS FALSE NEIGHBOUR: 'it returns false'. Refute it at one input. -/
def plannerNoPlanIsBetterWrong : ChangeSpec := { name := "plannerNoPlanIsBetter", fn := fun _ => fun
  | [d1, d2] => { results := [.lit (.bool false)], args := [d1, d2] }
  | _ => none }
def PlannerNoPlanIsBetterWrongFalsely : Prop := plannerNoPlanIsBetterRow.holds Tryz.pinned (OpenSpec.ofChange plannerNoPlanIsBetterWrong)

/-- 'univocallaw31.PlannerDependsOnPairs': WHATEVER THE INPUT: true; the input reads as it did. -/
def plannerDependsOnPairsSpec : ChangeSpec := { name := "plannerDependsOnPairs", fn := fun _ => fun
  | [d1, d2] => { results := [.lit (.bool true)], args := [d1, d2] }
  | _ => none }
def plannerDependsOnPairsRow : OpenClaim := { program := "ytngdgnolkilheaagreatdoor", sum := "e046ff67cfc8dfeb61998a8b625e08358f47be70ea5cc8cae57def3651990874", func := "univocal/univocallaw31.PlannerDependsOnPairs", spec := "plannerDependsOnPairs", unfollowed := true, recurses := true, named := ["math/bits.deBruijn64tab"], plainKeys := false, apart := false, laid := [("math/bits.deBruijn64tab", laid_math_bits_deBruijn64tab)] }
def PlannerDependsOnPairsSaid : Prop := plannerDependsOnPairsRow.holds Tryz.pinned (OpenSpec.ofChange plannerDependsOnPairsSpec)

/-- ITS FALSE NEIGHBOUR: 'it returns false'. Refute it at one input. -/
def plannerDependsOnPairsWrong : ChangeSpec := { name := "plannerDependsOnPairs", fn := fun _ => fun
  | [d1, d2] => { results := [.lit (.bool false)], args := [d1, d2] }
  | _ => none }
def PlannerDependsOnPairsWrongFalsely : Prop := plannerDependsOnPairsRow.holds Tryz.pinned (OpenSpec.ofChange plannerDependsOnPairsWrong)

/-- 'univocallaw31.PlannerMoreCertificatesHelp': WHATEVER THE INPUT: true; the input reads as it did. -/
def plannerMoreCertificatesHelpSpec : ChangeSpec := { name := "plannerMoreCertificatesHelp", fn := fun _ => fun
  | [d1, d2] => { results := [.lit (.bool true)], args := [d1, d2] }
  | _ => none }
def plannerMoreCertificatesHelpRow : OpenClaim := { program := "ytngdgnolkilheaagreatdoor", sum := "e046ff67cfc8dfeb61998a8b625e08358f47be70ea5cc8cae57def3651990874", func := "univocal/univocallaw31.PlannerMoreCertificatesHelp", spec := "plannerMoreCertificatesHelp", unfollowed := true, recurses := true, named := ["math/bits.deBruijn64tab"], plainKeys := false, apart := false, laid := [("math/bits.deBruijn64tab", laid_math_bits_deBruijn64tab)] }
def PlannerMoreCertificatesHelpSaid : Prop := plannerMoreCertificatesHelpRow.holds Tryz.pinned (OpenSpec.ofChange plannerMoreCertificatesHelpSpec)

/-- ITS FALSE NEIGHBOUR: 'it returns false'. Refute it at one input. -/
def plannerMoreCertificatesHelpWrong : ChangeSpec := { name := "plannerMoreCertificatesHelp", fn := fun _ => fun
  | [d1, d2] => { results := [.lit (.bool false)], args := [d1, d2] }
  | _ => none }
def PlannerMoreCertificatesHelpWrongFalsely : Prop := plannerMoreCertificatesHelpRow.holds Tryz.pinned (OpenSpec.ofChange plannerMoreCertificatesHelpWrong)

/-- 'univocallaw31.PlannerReverses': WHATEVER THE INPUT: true; the input reads as it did. -/
def plannerReversesSpec : ChangeSpec := { name := "plannerReverses", fn := fun _ => fun
  | [d] => { results := [.lit (.bool true)], args := [d] }
  | _ => none }
def plannerReversesRow : OpenClaim := { program := "ytngdgnolkilheaagreatdoor", sum := "e046ff67cfc8dfeb61998a8b625e08358f47be70ea5cc8cae57def3651990874", func := "univocal/univocallaw31.PlannerReverses", spec := "plannerReverses", unfollowed := true, recurses := true, named := ["math/bits.deBruijn64tab"], plainKeys := false, apart := false, laid := [("math/bits.deBruijn64tab", laid_math_bits_deBruijn64tab)] }
def PlannerReversesSaid : Prop := plannerReversesRow.holds Tryz.pinned (OpenSpec.ofChange plannerReversesSpec)

/-- ITS FALSE NEIGHBOUR: 'it returns false'. Refute it at one input. -/
def plannerReversesWrong : ChangeSpec := { name := "plannerReverses", fn := fun _ => fun
  | [d] => { results := [.lit (.bool false)], args := [d] }
  | _ => none }
def PlannerReversesWrongFalsely : Prop := plannerReversesRow.holds Tryz.pinned (OpenSpec.ofChange plannerReversesWrong)

/- THE SECOND FORM. 'bulk': how many values and letters a reading holds, each counted each time it is reached (what is shared counts as often as it is met; a slice's spare places count too). A statement '..UptoSaid' is the law's where the arguments, and the package variables that the reading takes, are together of bulk at most 1048576: NARROWER than '..Said'. Prove '..Said' where nothing that the law and all that it calls make is longer than what came in: it says more and counts as full. Else prove '..UptoSaid'. A law counts once. -/
mutual
def uptoBulk {H : Type} : DataW H → Nat
  | .lit (.string bytes) => bytes.length + 1
  | .lit _ => 1
  | .nil => 1
  | .ptr d => uptoBulk d + 1
  | .slice elems spare => uptoBulkAll elems + uptoBulkAll spare + 1
  | .agg parts => uptoBulkAll parts + 1
  | .iface _ d => uptoBulk d + 1
  | .map entries => uptoBulkEntries entries + 1
  | .held _ => 1
def uptoBulkAll {H : Type} : List (DataW H) → Nat
  | [] => 0
  | d :: r => uptoBulk d + uptoBulkAll r
def uptoBulkEntries {H : Type} : List (Lit × DataW H) → Nat
  | [] => 0
  | x :: r => uptoBulkEntry x + uptoBulkEntries r
def uptoBulkEntry {H : Type} : Lit × DataW H → Nat
  | (.string bytes, d) => bytes.length + uptoBulk d + 1
  | (_, d) => uptoBulk d + 1
 end
def uptoSmall : (H : Type) → List (DataW H) → Bool := fun _ ds => decide (uptoBulkAll ds ≤ 1048576)
def OpenSpec.upto (s : _root_.Go.ChangeSpec) : _root_.Go.OpenSpec := { _root_.Go.OpenSpec.ofChange s with cond := some uptoSmall }

/-- 'univocallaw31.PlannerMatchesReference', WHERE WHAT IT READS IS OF BULK AT MOST 1048576: true; the input reads as it did. -/
def plannerMatchesReferenceUptoRow : OpenClaim := { program := "ytngdgnolkilheaagreatdoor", sum := "e046ff67cfc8dfeb61998a8b625e08358f47be70ea5cc8cae57def3651990874", func := "univocal/univocallaw31.PlannerMatchesReference", spec := "plannerMatchesReference", unfollowed := true, recurses := true, named := ["math/bits.deBruijn64tab"], plainKeys := false, apart := false, laid := [("math/bits.deBruijn64tab", laid_math_bits_deBruijn64tab)], narrowed := true }
def PlannerMatchesReferenceUptoSaid : Prop := plannerMatchesReferenceUptoRow.holds Tryz.pinned (OpenSpec.upto plannerMatchesReferenceSpec)

/-- 'univocallaw31.PlannerErrorsMatchReference', WHERE WHAT IT READS IS OF BULK AT MOST 1048576: true; the input reads as it did. -/
def plannerErrorsMatchReferenceUptoRow : OpenClaim := { program := "ytngdgnolkilheaagreatdoor", sum := "e046ff67cfc8dfeb61998a8b625e08358f47be70ea5cc8cae57def3651990874", func := "univocal/univocallaw31.PlannerErrorsMatchReference", spec := "plannerErrorsMatchReference", unfollowed := true, recurses := true, named := ["math/bits.deBruijn64tab"], plainKeys := false, apart := false, laid := [("math/bits.deBruijn64tab", laid_math_bits_deBruijn64tab)], narrowed := true }
def PlannerErrorsMatchReferenceUptoSaid : Prop := plannerErrorsMatchReferenceUptoRow.holds Tryz.pinned (OpenSpec.upto plannerErrorsMatchReferenceSpec)

/-- 'univocallaw31.PlannerBestIsSafe', WHERE WHAT IT READS IS OF BULK AT MOST 1048576: true; the input reads as it did. -/
def plannerBestIsSafeUptoRow : OpenClaim := { program := "ytngdgnolkilheaagreatdoor", sum := "e046ff67cfc8dfeb61998a8b625e08358f47be70ea5cc8cae57def3651990874", func := "univocal/univocallaw31.PlannerBestIsSafe", spec := "plannerBestIsSafe", unfollowed := true, recurses := true, named := ["math/bits.deBruijn64tab"], plainKeys := false, apart := false, laid := [("math/bits.deBruijn64tab", laid_math_bits_deBruijn64tab)], narrowed := true }
def PlannerBestIsSafeUptoSaid : Prop := plannerBestIsSafeUptoRow.holds Tryz.pinned (OpenSpec.upto plannerBestIsSafeSpec)

/-- 'univocallaw31.PlannerNoPlanIsBetter', WHERE WHAT IT READS IS OF BULK AT MOST 1048576: true; the input reads as it did. -/
def plannerNoPlanIsBetterUptoRow : OpenClaim := { program := "ytngdgnolkilheaagreatdoor", sum := "e046ff67cfc8dfeb61998a8b625e08358f47be70ea5cc8cae57def3651990874", func := "univocal/univocallaw31.PlannerNoPlanIsBetter", spec := "plannerNoPlanIsBetter", unfollowed := true, recurses := true, named := ["math/bits.deBruijn64tab"], plainKeys := false, apart := false, laid := [("math/bits.deBruijn64tab", laid_math_bits_deBruijn64tab)], narrowed := true }
def PlannerNoPlanIsBetterUptoSaid : Prop := plannerNoPlanIsBetterUptoRow.holds Tryz.pinned (OpenSpec.upto plannerNoPlanIsBetterSpec)

/-- 'univocallaw31.PlannerDependsOnPairs', WHERE WHAT IT READS IS OF BULK AT MOST 1048576: true; the input reads as it did. -/
def plannerDependsOnPairsUptoRow : OpenClaim := { program := "ytngdgnolkilheaagreatdoor", sum := "e046ff67cfc8dfeb61998a8b625e08358f47be70ea5cc8cae57def3651990874", func := "univocal/univocallaw31.PlannerDependsOnPairs", spec := "plannerDependsOnPairs", unfollowed := true, recurses := true, named := ["math/bits.deBruijn64tab"], plainKeys := false, apart := false, laid := [("math/bits.deBruijn64tab", laid_math_bits_deBruijn64tab)], narrowed := true }
def PlannerDependsOnPairsUptoSaid : Prop := plannerDependsOnPairsUptoRow.holds Tryz.pinned (OpenSpec.upto plannerDependsOnPairsSpec)

/-- 'univocallaw31.PlannerMoreCertificatesHelp', WHERE WHAT IT READS IS OF BULK AT MOST 1048576: true; the input reads as it did. -/
def plannerMoreCertificatesHelpUptoRow : OpenClaim := { program := "ytngdgnolkilheaagreatdoor", sum := "e046ff67cfc8dfeb61998a8b625e08358f47be70ea5cc8cae57def3651990874", func := "univocal/univocallaw31.PlannerMoreCertificatesHelp", spec := "plannerMoreCertificatesHelp", unfollowed := true, recurses := true, named := ["math/bits.deBruijn64tab"], plainKeys := false, apart := false, laid := [("math/bits.deBruijn64tab", laid_math_bits_deBruijn64tab)], narrowed := true }
def PlannerMoreCertificatesHelpUptoSaid : Prop := plannerMoreCertificatesHelpUptoRow.holds Tryz.pinned (OpenSpec.upto plannerMoreCertificatesHelpSpec)

/-- 'univocallaw31.PlannerReverses', WHERE WHAT IT READS IS OF BULK AT MOST 1048576: true; the input reads as it did. -/
def plannerReversesUptoRow : OpenClaim := { program := "ytngdgnolkilheaagreatdoor", sum := "e046ff67cfc8dfeb61998a8b625e08358f47be70ea5cc8cae57def3651990874", func := "univocal/univocallaw31.PlannerReverses", spec := "plannerReverses", unfollowed := true, recurses := true, named := ["math/bits.deBruijn64tab"], plainKeys := false, apart := false, laid := [("math/bits.deBruijn64tab", laid_math_bits_deBruijn64tab)], narrowed := true }
def PlannerReversesUptoSaid : Prop := plannerReversesUptoRow.holds Tryz.pinned (OpenSpec.upto plannerReversesSpec)

end Rows
end Go.Proofs.YtngdgnolkilheaaGreatDoor
