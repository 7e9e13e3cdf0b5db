/-
  NARROWER THAN 'FOR EVERY INPUT', by the rows' own cells (each row's printed sentence says how): FleetMatchesReference: laid · FleetPaths: laid · FleetVersions: laid · FleetPairs: laid · FleetEdges: laid · FleetOrder: laid · FleetErrors: laid.
  DERIVED. THE GIVEN ROWS OF THIS SEAT. 7 by the template 'for every input the law returns true; each argument reads behind the call as it read before'; 0 by the template 'total and deterministic' (their statements: YtkeplgdofphnkaaGreatDoorTotals.lean).
  GIVEN WITH THE SEED: the statements are not yours to turn. If you find one false, say at which input.
  Laid BY PROGRAM, IN A SANDBOX (cutbox-rows.mjs): the forced cells as the released guide's own fill.sh prints them over the translation 3f1af892f6937d8f… (all of the seat's roots in one cut). By AI agents, Wed Nov 11 2026. No macro, syntax, notation, axiom, sorry.
-/
import Derived.Test.YtkeplgdofphnkaaGreatDoorChecked
import GoSem.Claim
import GoSem.ClaimJoined
import GoSem.ClaimMapViews
import Derived.JoinedTies
import Derived.KernelRfl
namespace Go.Proofs.YtkeplgdofphnkaaGreatDoor
/- THE CELL 'sum', in the pinned program and in every row, IS THE sha256 OF THE DUMP (.gsa) THAT YtkeplgdofphnkaaGreatDoorProg.lean LOADS. Nothing in Lean hashes anything: it is a label: what it is worth is what the hold of that sum in a sandbox is worth. -/
noncomputable def Tryz.pinned : Pinned := { name := "ytkeplgdofphnkaagreatdoor", sum := "3f1af892f6937d8f493e096936523a753f9c31556f5a64000a3d72d7956eb35f", checked := Tryz.checked }
namespace Rows
def none {H : Type} : Left H := { results := [], args := [] }

/- WHAT THE LISTED PACKAGE-LEVEL VARIABLES READ AS WHEN THE CALL BEGINS. Each datum BY PROGRAM (the guide's laid-datum.mjs) off the statement by which the dump's own 'gosem.cut.vars' lays the variable. In a bare row this is a premise. The card (YtkeplgdofphnkaaGreatDoorCards.lean) ties it to the program's text. -/
def laid_math_bits_deBruijn64tab {H : Type} : DataW H := .agg [.lit (.int .u8 0), .lit (.int .u8 1), .lit (.int .u8 56), .lit (.int .u8 2), .lit (.int .u8 57), .lit (.int .u8 49), .lit (.int .u8 28), .lit (.int .u8 3), .lit (.int .u8 61), .lit (.int .u8 58), .lit (.int .u8 42), .lit (.int .u8 50), .lit (.int .u8 38), .lit (.int .u8 29), .lit (.int .u8 17), .lit (.int .u8 4), .lit (.int .u8 62), .lit (.int .u8 47), .lit (.int .u8 59), .lit (.int .u8 36), .lit (.int .u8 45), .lit (.int .u8 43), .lit (.int .u8 51), .lit (.int .u8 22), .lit (.int .u8 53), .lit (.int .u8 39), .lit (.int .u8 33), .lit (.int .u8 30), .lit (.int .u8 24), .lit (.int .u8 18), .lit (.int .u8 12), .lit (.int .u8 5), .lit (.int .u8 63), .lit (.int .u8 55), .lit (.int .u8 48), .lit (.int .u8 27), .lit (.int .u8 60), .lit (.int .u8 41), .lit (.int .u8 37), .lit (.int .u8 16), .lit (.int .u8 46), .lit (.int .u8 35), .lit (.int .u8 44), .lit (.int .u8 21), .lit (.int .u8 52), .lit (.int .u8 32), .lit (.int .u8 23), .lit (.int .u8 11), .lit (.int .u8 54), .lit (.int .u8 26), .lit (.int .u8 40), .lit (.int .u8 15), .lit (.int .u8 34), .lit (.int .u8 20), .lit (.int .u8 31), .lit (.int .u8 10), .lit (.int .u8 25), .lit (.int .u8 14), .lit (.int .u8 19), .lit (.int .u8 9), .lit (.int .u8 13), .lit (.int .u8 8), .lit (.int .u8 7), .lit (.int .u8 6)]

/-- 'univocallaw30.FleetMatchesReference': WHATEVER THE INPUT: true; the input reads as it did. -/
def fleetMatchesReferenceSpec : ChangeSpec := { name := "fleetMatchesReference", fn := fun _ => fun
  | [d1, d2, d3] => { results := [.lit (.bool true)], args := [d1, d2, d3] }
  | _ => none }
def fleetMatchesReferenceRow : OpenClaim := { program := "ytkeplgdofphnkaagreatdoor", sum := "3f1af892f6937d8f493e096936523a753f9c31556f5a64000a3d72d7956eb35f", func := "univocal/univocallaw30.FleetMatchesReference", spec := "fleetMatchesReference", unfollowed := true, recurses := true, named := ["math/bits.deBruijn64tab"], plainKeys := false, apart := false, laid := [("math/bits.deBruijn64tab", laid_math_bits_deBruijn64tab)] }
def FleetMatchesReferenceSaid : Prop := fleetMatchesReferenceRow.holds Tryz.pinned (OpenSpec.ofChange fleetMatchesReferenceSpec)

/-- ITS FALSE NEIGHBOUR: 'it returns false'. Refute it at one input. -/
def fleetMatchesReferenceWrong : ChangeSpec := { name := "fleetMatchesReference", fn := fun _ => fun
  | [d1, d2, d3] => { results := [.lit (.bool false)], args := [d1, d2, d3] }
  | _ => none }
def FleetMatchesReferenceWrongFalsely : Prop := fleetMatchesReferenceRow.holds Tryz.pinned (OpenSpec.ofChange fleetMatchesReferenceWrong)

/-- 'univocallaw30.FleetPaths': WHATEVER THE INPUT: true; the input reads as it did. -/
def fleetPathsSpec : ChangeSpec := { name := "fleetPaths", fn := fun _ => fun
  | [d1, d2, d3] => { results := [.lit (.bool true)], args := [d1, d2, d3] }
  | _ => none }
def fleetPathsRow : OpenClaim := { program := "ytkeplgdofphnkaagreatdoor", sum := "3f1af892f6937d8f493e096936523a753f9c31556f5a64000a3d72d7956eb35f", func := "univocal/univocallaw30.FleetPaths", spec := "fleetPaths", unfollowed := true, recurses := true, named := ["math/bits.deBruijn64tab"], plainKeys := false, apart := false, laid := [("math/bits.deBruijn64tab", laid_math_bits_deBruijn64tab)] }
def FleetPathsSaid : Prop := fleetPathsRow.holds Tryz.pinned (OpenSpec.ofChange fleetPathsSpec)

/-- ITS FALSE NEIGHBOUR: 'it returns false'. Refute it at one input. -/
def fleetPathsWrong : ChangeSpec := { name := "fleetPaths", fn := fun _ => fun
  | [d1, d2, d3] => { results := [.lit (.bool false)], args := [d1, d2, d3] }
  | _ => none }
def FleetPathsWrongFalsely : Prop := fleetPathsRow.holds Tryz.pinned (OpenSpec.ofChange fleetPathsWrong)

/-- 'univocallaw30.FleetVersions': WHATEVER THE INPUT: true; the input reads as it did. -/
def fleetVersionsSpec : ChangeSpec := { name := "fleetVersions", fn := fun _ => fun
  | [d1, d2, d3] => { results := [.lit (.bool true)], args := [d1, d2, d3] }
  | _ => none }
def fleetVersionsRow : OpenClaim := { program := "ytkeplgdofphnkaagreatdoor", sum := "3f1af892f6937d8f493e096936523a753f9c31556f5a64000a3d72d7956eb35f", func := "univocal/univocallaw30.FleetVersions", spec := "fleetVersions", unfollowed := true, recurses := true, named := ["math/bits.deBruijn64tab"], plainKeys := false, apart := false, laid := [("math/bits.deBruijn64tab", laid_math_bits_deBruijn64tab)] }
def FleetVersionsSaid : Prop := fleetVersionsRow.holds Tryz.pinned (OpenSpec.ofChange fleetVersionsSpec)

/-- ITS FALSE NEIGHBOUR: 'it returns false'. Refute it at one input. -/
def fleetVersionsWrong : ChangeSpec := { name := "fleetVersions", fn := fun _ => fun
  | [d1, d2, d3] => { results := [.lit (.bool false)], args := [d1, d2, d3] }
  | _ => none }
def FleetVersionsWrongFalsely : Prop := fleetVersionsRow.holds Tryz.pinned (OpenSpec.ofChange fleetVersionsWrong)

/-- 'univocallaw30.FleetPairs': WHATEVER THE INPUT: true; the input reads as it did. -/
def fleetPairsSpec : ChangeSpec := { name := "fleetPairs", fn := fun _ => fun
  | [d1, d2, d3] => { results := [.lit (.bool true)], args := [d1, d2, d3] }
  | _ => none }
def fleetPairsRow : OpenClaim := { program := "ytkeplgdofphnkaagreatdoor", sum := "3f1af892f6937d8f493e096936523a753f9c31556f5a64000a3d72d7956eb35f", func := "univocal/univocallaw30.FleetPairs", spec := "fleetPairs", unfollowed := true, recurses := true, named := ["math/bits.deBruijn64tab"], plainKeys := false, apart := false, laid := [("math/bits.deBruijn64tab", laid_math_bits_deBruijn64tab)] }
def FleetPairsSaid : Prop := fleetPairsRow.holds Tryz.pinned (OpenSpec.ofChange fleetPairsSpec)

/-- ITS FALSE NEIGHBOUR: 'it returns false'. Refute it at one input. -/
def fleetPairsWrong : ChangeSpec := { name := "fleetPairs", fn := fun _ => fun
  | [d1, d2, d3] => { results := [.lit (.bool false)], args := [d1, d2, d3] }
  | _ => none }
def FleetPairsWrongFalsely : Prop := fleetPairsRow.holds Tryz.pinned (OpenSpec.ofChange fleetPairsWrong)

/-- 'univocallaw30.FleetEdges': WHATEVER THE INPUT: true; the input reads as it did. -/
def fleetEdgesSpec : ChangeSpec := { name := "fleetEdges", fn := fun _ => fun
  | [d1, d2, d3] => { results := [.lit (.bool true)], args := [d1, d2, d3] }
  | _ => none }
def fleetEdgesRow : OpenClaim := { program := "ytkeplgdofphnkaagreatdoor", sum := "3f1af892f6937d8f493e096936523a753f9c31556f5a64000a3d72d7956eb35f", func := "univocal/univocallaw30.FleetEdges", spec := "fleetEdges", unfollowed := true, recurses := true, named := ["math/bits.deBruijn64tab"], plainKeys := false, apart := false, laid := [("math/bits.deBruijn64tab", laid_math_bits_deBruijn64tab)] }
def FleetEdgesSaid : Prop := fleetEdgesRow.holds Tryz.pinned (OpenSpec.ofChange fleetEdgesSpec)

/-- ITS FALSE NEIGHBOUR: 'it returns false'. Refute it at one input. -/
def fleetEdgesWrong : ChangeSpec := { name := "fleetEdges", fn := fun _ => fun
  | [d1, d2, d3] => { results := [.lit (.bool false)], args := [d1, d2, d3] }
  | _ => none }
def FleetEdgesWrongFalsely : Prop := fleetEdgesRow.holds Tryz.pinned (OpenSpec.ofChange fleetEdgesWrong)

/-- 'univocallaw30.FleetOrder': WHATEVER THE INPUT: true; the input reads as it did. -/
def fleetOrderSpec : ChangeSpec := { name := "fleetOrder", fn := fun _ => fun
  | [d1, d2, d3] => { results := [.lit (.bool true)], args := [d1, d2, d3] }
  | _ => none }
def fleetOrderRow : OpenClaim := { program := "ytkeplgdofphnkaagreatdoor", sum := "3f1af892f6937d8f493e096936523a753f9c31556f5a64000a3d72d7956eb35f", func := "univocal/univocallaw30.FleetOrder", spec := "fleetOrder", unfollowed := true, recurses := true, named := ["math/bits.deBruijn64tab"], plainKeys := false, apart := false, laid := [("math/bits.deBruijn64tab", laid_math_bits_deBruijn64tab)] }
def FleetOrderSaid : Prop := fleetOrderRow.holds Tryz.pinned (OpenSpec.ofChange fleetOrderSpec)

/-- ITS FALSE NEIGHBOUR: 'it returns false'. Refute it at one input. -/
def fleetOrderWrong : ChangeSpec := { name := "fleetOrder", fn := fun _ => fun
  | [d1, d2, d3] => { results := [.lit (.bool false)], args := [d1, d2, d3] }
  | _ => none }
def FleetOrderWrongFalsely : Prop := fleetOrderRow.holds Tryz.pinned (OpenSpec.ofChange fleetOrderWrong)

/-- 'univocallaw30.FleetErrors': WHATEVER THE INPUT: true; the input reads as it did. -/
def fleetErrorsSpec : ChangeSpec := { name := "fleetErrors", fn := fun _ => fun
  | [d1, d2, d3] => { results := [.lit (.bool true)], args := [d1, d2, d3] }
  | _ => none }
def fleetErrorsRow : OpenClaim := { program := "ytkeplgdofphnkaagreatdoor", sum := "3f1af892f6937d8f493e096936523a753f9c31556f5a64000a3d72d7956eb35f", func := "univocal/univocallaw30.FleetErrors", spec := "fleetErrors", unfollowed := true, recurses := true, named := ["math/bits.deBruijn64tab"], plainKeys := false, apart := false, laid := [("math/bits.deBruijn64tab", laid_math_bits_deBruijn64tab)] }
def FleetErrorsSaid : Prop := fleetErrorsRow.holds Tryz.pinned (OpenSpec.ofChange fleetErrorsSpec)

/-- ITS FALSE NEIGHBOUR: 'it returns false'. Refute it at one input. -/
def fleetErrorsWrong : ChangeSpec := { name := "fleetErrors", fn := fun _ => fun
  | [d1, d2, d3] => { results := [.lit (.bool false)], args := [d1, d2, d3] }
  | _ => none }
def FleetErrorsWrongFalsely : Prop := fleetErrorsRow.holds Tryz.pinned (OpenSpec.ofChange fleetErrorsWrong)

/- THE SECOND FORM. 'bulk': how many values and letters a reading holds, each counted each time it is reached (what is shared counts as often as it is met; a slice's spare places count too). A statement '..UptoSaid' is the law's where the arguments, and the package variables that the reading takes, are together of bulk at most 1048576: NARROWER than '..Said'. Prove '..Said' where nothing that the law and all that it calls make is longer than what came in: it says more and counts as full. Else prove '..UptoSaid'. A law counts once. -/
mutual
def uptoBulk {H : Type} : DataW H → Nat
  | .lit (.string bytes) => bytes.length + 1
  | .lit _ => 1
  | .nil => 1
  | .ptr d => uptoBulk d + 1
  | .slice elems spare => uptoBulkAll elems + uptoBulkAll spare + 1
  | .agg parts => uptoBulkAll parts + 1
  | .iface _ d => uptoBulk d + 1
  | .map entries => uptoBulkEntries entries + 1
  | .held _ => 1
def uptoBulkAll {H : Type} : List (DataW H) → Nat
  | [] => 0
  | d :: r => uptoBulk d + uptoBulkAll r
def uptoBulkEntries {H : Type} : List (Lit × DataW H) → Nat
  | [] => 0
  | x :: r => uptoBulkEntry x + uptoBulkEntries r
def uptoBulkEntry {H : Type} : Lit × DataW H → Nat
  | (.string bytes, d) => bytes.length + uptoBulk d + 1
  | (_, d) => uptoBulk d + 1
 end
def uptoSmall : (H : Type) → List (DataW H) → Bool := fun _ ds => decide (uptoBulkAll ds ≤ 1048576)
def OpenSpec.upto (s : _root_.Go.ChangeSpec) : _root_.Go.OpenSpec := { _root_.Go.OpenSpec.ofChange s with cond := some uptoSmall }

/-- 'univocallaw30.FleetMatchesReference', WHERE WHAT IT READS IS OF BULK AT MOST 1048576: true; the input reads as it did. -/
def fleetMatchesReferenceUptoRow : OpenClaim := { program := "ytkeplgdofphnkaagreatdoor", sum := "3f1af892f6937d8f493e096936523a753f9c31556f5a64000a3d72d7956eb35f", func := "univocal/univocallaw30.FleetMatchesReference", spec := "fleetMatchesReference", unfollowed := true, recurses := true, named := ["math/bits.deBruijn64tab"], plainKeys := false, apart := false, laid := [("math/bits.deBruijn64tab", laid_math_bits_deBruijn64tab)], narrowed := true }
def FleetMatchesReferenceUptoSaid : Prop := fleetMatchesReferenceUptoRow.holds Tryz.pinned (OpenSpec.upto fleetMatchesReferenceSpec)

/-- 'univocallaw30.FleetPaths', WHERE WHAT IT READS IS OF BULK AT MOST 1048576: true; the input reads as it did. -/
def fleetPathsUptoRow : OpenClaim := { program := "ytkeplgdofphnkaagreatdoor", sum := "3f1af892f6937d8f493e096936523a753f9c31556f5a64000a3d72d7956eb35f", func := "univocal/univocallaw30.FleetPaths", spec := "fleetPaths", unfollowed := true, recurses := true, named := ["math/bits.deBruijn64tab"], plainKeys := false, apart := false, laid := [("math/bits.deBruijn64tab", laid_math_bits_deBruijn64tab)], narrowed := true }
def FleetPathsUptoSaid : Prop := fleetPathsUptoRow.holds Tryz.pinned (OpenSpec.upto fleetPathsSpec)

/-- 'univocallaw30.FleetVersions', WHERE WHAT IT READS IS OF BULK AT MOST 1048576: true; the input reads as it did. -/
def fleetVersionsUptoRow : OpenClaim := { program := "ytkeplgdofphnkaagreatdoor", sum := "3f1af892f6937d8f493e096936523a753f9c31556f5a64000a3d72d7956eb35f", func := "univocal/univocallaw30.FleetVersions", spec := "fleetVersions", unfollowed := true, recurses := true, named := ["math/bits.deBruijn64tab"], plainKeys := false, apart := false, laid := [("math/bits.deBruijn64tab", laid_math_bits_deBruijn64tab)], narrowed := true }
def FleetVersionsUptoSaid : Prop := fleetVersionsUptoRow.holds Tryz.pinned (OpenSpec.upto fleetVersionsSpec)

/-- 'univocallaw30.FleetPairs', WHERE WHAT IT READS IS OF BULK AT MOST 1048576: true; the input reads as it did. -/
def fleetPairsUptoRow : OpenClaim := { program := "ytkeplgdofphnkaagreatdoor", sum := "3f1af892f6937d8f493e096936523a753f9c31556f5a64000a3d72d7956eb35f", func := "univocal/univocallaw30.FleetPairs", spec := "fleetPairs", unfollowed := true, recurses := true, named := ["math/bits.deBruijn64tab"], plainKeys := false, apart := false, laid := [("math/bits.deBruijn64tab", laid_math_bits_deBruijn64tab)], narrowed := true }
def FleetPairsUptoSaid : Prop := fleetPairsUptoRow.holds Tryz.pinned (OpenSpec.upto fleetPairsSpec)

/-- 'univocallaw30.FleetEdges', WHERE WHAT IT READS IS OF BULK AT MOST 1048576: true; the input reads as it did. -/
def fleetEdgesUptoRow : OpenClaim := { program := "ytkeplgdofphnkaagreatdoor", sum := "3f1af892f6937d8f493e096936523a753f9c31556f5a64000a3d72d7956eb35f", func := "univocal/univocallaw30.FleetEdges", spec := "fleetEdges", unfollowed := true, recurses := true, named := ["math/bits.deBruijn64tab"], plainKeys := false, apart := false, laid := [("math/bits.deBruijn64tab", laid_math_bits_deBruijn64tab)], narrowed := true }
def FleetEdgesUptoSaid : Prop := fleetEdgesUptoRow.holds Tryz.pinned (OpenSpec.upto fleetEdgesSpec)

/-- 'univocallaw30.FleetOrder', WHERE WHAT IT READS IS OF BULK AT MOST 1048576: true; the input reads as it did. -/
def fleetOrderUptoRow : OpenClaim := { program := "ytkeplgdofphnkaagreatdoor", sum := "3f1af892f6937d8f493e096936523a753f9c31556f5a64000a3d72d7956eb35f", func := "univocal/univocallaw30.FleetOrder", spec := "fleetOrder", unfollowed := true, recurses := true, named := ["math/bits.deBruijn64tab"], plainKeys := false, apart := false, laid := [("math/bits.deBruijn64tab", laid_math_bits_deBruijn64tab)], narrowed := true }
def FleetOrderUptoSaid : Prop := fleetOrderUptoRow.holds Tryz.pinned (OpenSpec.upto fleetOrderSpec)

/-- 'univocallaw30.FleetErrors', WHERE WHAT IT READS IS OF BULK AT MOST 1048576: true; the input reads as it did. -/
def fleetErrorsUptoRow : OpenClaim := { program := "ytkeplgdofphnkaagreatdoor", sum := "3f1af892f6937d8f493e096936523a753f9c31556f5a64000a3d72d7956eb35f", func := "univocal/univocallaw30.FleetErrors", spec := "fleetErrors", unfollowed := true, recurses := true, named := ["math/bits.deBruijn64tab"], plainKeys := false, apart := false, laid := [("math/bits.deBruijn64tab", laid_math_bits_deBruijn64tab)], narrowed := true }
def FleetErrorsUptoSaid : Prop := fleetErrorsUptoRow.holds Tryz.pinned (OpenSpec.upto fleetErrorsSpec)

end Rows
end Go.Proofs.YtkeplgdofphnkaaGreatDoor
