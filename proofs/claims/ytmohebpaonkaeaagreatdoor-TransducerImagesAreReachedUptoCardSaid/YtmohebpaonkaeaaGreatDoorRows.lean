/-
  NARROWER THAN 'FOR EVERY INPUT', by the rows' own cells (each row's printed sentence says how): TransducerMatchesReference: laid · TransducerChecksMachines: laid · TransducerComposeMatchesReference: laid · TransducerDomain: laid · TransducerImagesAreReached: laid · TransducerComposition: laid · TransducerPreimagesCompose: laid · TransducerApart: laid · TransducerPreimages: laid.
  DERIVED. THE GIVEN ROWS OF THIS SEAT. 9 by the template 'for every input the law returns true; each argument reads behind the call as it read before'; 0 by the template 'total and deterministic' (their statements: YtmohebpaonkaeaaGreatDoorTotals.lean).
  GIVEN WITH THE SEED: the statements are not yours to turn. If you find one false, say at which input.
  Laid BY PROGRAM, IN A SANDBOX (cutbox-rows.mjs): the forced cells as the released guide's own fill.sh prints them over the translation 4aa26ea9f3070b7a… (all of the seat's roots in one cut). By AI agents, Wed Nov 11 2026. No macro, syntax, notation, axiom, sorry.
-/
import Derived.Test.YtmohebpaonkaeaaGreatDoorChecked
import GoSem.Claim
import GoSem.ClaimJoined
import GoSem.ClaimMapViews
import Derived.JoinedTies
import Derived.KernelRfl
namespace Go.Proofs.YtmohebpaonkaeaaGreatDoor
/- THE CELL 'sum', in the pinned program and in every row, IS THE sha256 OF THE DUMP (.gsa) THAT YtmohebpaonkaeaaGreatDoorProg.lean LOADS. Nothing in Lean hashes anything: it is a label: what it is worth is what the hold of that sum in a sandbox is worth. -/
noncomputable def Tryz.pinned : Pinned := { name := "ytmohebpaonkaeaagreatdoor", sum := "4aa26ea9f3070b7af10fd57fbaa22c1adf54e745b07f6c85458a7207241a034e", checked := Tryz.checked }
namespace Rows
def none {H : Type} : Left H := { results := [], args := [] }

/- WHAT THE LISTED PACKAGE-LEVEL VARIABLES READ AS WHEN THE CALL BEGINS. Each datum BY PROGRAM (the guide's laid-datum.mjs) off the statement by which the dump's own 'gosem.cut.vars' lays the variable. In a bare row this is a premise. The card (YtmohebpaonkaeaaGreatDoorCards.lean) ties it to the program's text. -/
def laid_math_bits_deBruijn64tab {H : Type} : DataW H := .agg [.lit (.int .u8 0), .lit (.int .u8 1), .lit (.int .u8 56), .lit (.int .u8 2), .lit (.int .u8 57), .lit (.int .u8 49), .lit (.int .u8 28), .lit (.int .u8 3), .lit (.int .u8 61), .lit (.int .u8 58), .lit (.int .u8 42), .lit (.int .u8 50), .lit (.int .u8 38), .lit (.int .u8 29), .lit (.int .u8 17), .lit (.int .u8 4), .lit (.int .u8 62), .lit (.int .u8 47), .lit (.int .u8 59), .lit (.int .u8 36), .lit (.int .u8 45), .lit (.int .u8 43), .lit (.int .u8 51), .lit (.int .u8 22), .lit (.int .u8 53), .lit (.int .u8 39), .lit (.int .u8 33), .lit (.int .u8 30), .lit (.int .u8 24), .lit (.int .u8 18), .lit (.int .u8 12), .lit (.int .u8 5), .lit (.int .u8 63), .lit (.int .u8 55), .lit (.int .u8 48), .lit (.int .u8 27), .lit (.int .u8 60), .lit (.int .u8 41), .lit (.int .u8 37), .lit (.int .u8 16), .lit (.int .u8 46), .lit (.int .u8 35), .lit (.int .u8 44), .lit (.int .u8 21), .lit (.int .u8 52), .lit (.int .u8 32), .lit (.int .u8 23), .lit (.int .u8 11), .lit (.int .u8 54), .lit (.int .u8 26), .lit (.int .u8 40), .lit (.int .u8 15), .lit (.int .u8 34), .lit (.int .u8 20), .lit (.int .u8 31), .lit (.int .u8 10), .lit (.int .u8 25), .lit (.int .u8 14), .lit (.int .u8 19), .lit (.int .u8 9), .lit (.int .u8 13), .lit (.int .u8 8), .lit (.int .u8 7), .lit (.int .u8 6)]

/-- 'univocallaw07.TransducerMatchesReference': WHATEVER THE INPUT: true; the input reads as it did. -/
def transducerMatchesReferenceSpec : ChangeSpec := { name := "transducerMatchesReference", fn := fun _ => fun
  | [d1, d2, d3] => { results := [.lit (.bool true)], args := [d1, d2, d3] }
  | _ => none }
def transducerMatchesReferenceRow : OpenClaim := { program := "ytmohebpaonkaeaagreatdoor", sum := "4aa26ea9f3070b7af10fd57fbaa22c1adf54e745b07f6c85458a7207241a034e", func := "univocal/univocallaw07.TransducerMatchesReference", spec := "transducerMatchesReference", unfollowed := true, recurses := true, named := ["math/bits.deBruijn64tab"], plainKeys := false, apart := false, laid := [("math/bits.deBruijn64tab", laid_math_bits_deBruijn64tab)] }
def TransducerMatchesReferenceSaid : Prop := transducerMatchesReferenceRow.holds Tryz.pinned (OpenSpec.ofChange transducerMatchesReferenceSpec)

/-- ITS FALSE NEIGHBOUR: 'it returns false'. Refute it at one input. -/
def transducerMatchesReferenceWrong : ChangeSpec := { name := "transducerMatchesReference", fn := fun _ => fun
  | [d1, d2, d3] => { results := [.lit (.bool false)], args := [d1, d2, d3] }
  | _ => none }
def TransducerMatchesReferenceWrongFalsely : Prop := transducerMatchesReferenceRow.holds Tryz.pinned (OpenSpec.ofChange transducerMatchesReferenceWrong)

/-- 'univocallaw07.TransducerChecksMachines': WHATEVER THE INPUT: true; the input reads as it did. -/
def transducerChecksMachinesSpec : ChangeSpec := { name := "transducerChecksMachines", fn := fun _ => fun
  | [d1, d2, d3] => { results := [.lit (.bool true)], args := [d1, d2, d3] }
  | _ => none }
def transducerChecksMachinesRow : OpenClaim := { program := "ytmohebpaonkaeaagreatdoor", sum := "4aa26ea9f3070b7af10fd57fbaa22c1adf54e745b07f6c85458a7207241a034e", func := "univocal/univocallaw07.TransducerChecksMachines", spec := "transducerChecksMachines", unfollowed := true, recurses := true, named := ["math/bits.deBruijn64tab"], plainKeys := false, apart := false, laid := [("math/bits.deBruijn64tab", laid_math_bits_deBruijn64tab)] }
def TransducerChecksMachinesSaid : Prop := transducerChecksMachinesRow.holds Tryz.pinned (OpenSpec.ofChange transducerChecksMachinesSpec)

/-- ITS FALSE NEIGHBOUR: 'it returns false'. Refute it at one input. -/
def transducerChecksMachinesWrong : ChangeSpec := { name := "transducerChecksMachines", fn := fun _ => fun
  | [d1, d2, d3] => { results := [.lit (.bool false)], args := [d1, d2, d3] }
  | _ => none }
def TransducerChecksMachinesWrongFalsely : Prop := transducerChecksMachinesRow.holds Tryz.pinned (OpenSpec.ofChange transducerChecksMachinesWrong)

/-- 'univocallaw07.TransducerComposeMatchesReference': WHATEVER THE INPUT: true; the input reads as it did. -/
def transducerComposeMatchesReferenceSpec : ChangeSpec := { name := "transducerComposeMatchesReference", fn := fun _ => fun
  | [d1, d2, d3] => { results := [.lit (.bool true)], args := [d1, d2, d3] }
  | _ => none }
def transducerComposeMatchesReferenceRow : OpenClaim := { program := "ytmohebpaonkaeaagreatdoor", sum := "4aa26ea9f3070b7af10fd57fbaa22c1adf54e745b07f6c85458a7207241a034e", func := "univocal/univocallaw07.TransducerComposeMatchesReference", spec := "transducerComposeMatchesReference", unfollowed := true, recurses := true, named := ["math/bits.deBruijn64tab"], plainKeys := false, apart := false, laid := [("math/bits.deBruijn64tab", laid_math_bits_deBruijn64tab)] }
def TransducerComposeMatchesReferenceSaid : Prop := transducerComposeMatchesReferenceRow.holds Tryz.pinned (OpenSpec.ofChange transducerComposeMatchesReferenceSpec)

/-- ITS FALSE NEIGHBOUR: 'it returns false'. Refute it at one input. -/
def transducerComposeMatchesReferenceWrong : ChangeSpec := { name := "transducerComposeMatchesReference", fn := fun _ => fun
  | [d1, d2, d3] => { results := [.lit (.bool false)], args := [d1, d2, d3] }
  | _ => none }
def TransducerComposeMatchesReferenceWrongFalsely : Prop := transducerComposeMatchesReferenceRow.holds Tryz.pinned (OpenSpec.ofChange transducerComposeMatchesReferenceWrong)

/-- 'univocallaw07.TransducerDomain': WHATEVER THE INPUT: true; the input reads as it did. -/
def transducerDomainSpec : ChangeSpec := { name := "transducerDomain", fn := fun _ => fun
  | [d1, d2] => { results := [.lit (.bool true)], args := [d1, d2] }
  | _ => none }
def transducerDomainRow : OpenClaim := { program := "ytmohebpaonkaeaagreatdoor", sum := "4aa26ea9f3070b7af10fd57fbaa22c1adf54e745b07f6c85458a7207241a034e", func := "univocal/univocallaw07.TransducerDomain", spec := "transducerDomain", unfollowed := true, recurses := true, named := ["math/bits.deBruijn64tab"], plainKeys := false, apart := false, laid := [("math/bits.deBruijn64tab", laid_math_bits_deBruijn64tab)] }
def TransducerDomainSaid : Prop := transducerDomainRow.holds Tryz.pinned (OpenSpec.ofChange transducerDomainSpec)

/-- ITS FALSE NEIGHBOUR: 'it returns false'. Refute it at one input. -/
def transducerDomainWrong : ChangeSpec := { name := "transducerDomain", fn := fun _ => fun
  | [d1, d2] => { results := [.lit (.bool false)], args := [d1, d2] }
  | _ => none }
def TransducerDomainWrongFalsely : Prop := transducerDomainRow.holds Tryz.pinned (OpenSpec.ofChange transducerDomainWrong)

/-- 'univocallaw07.TransducerImagesAreReached': WHATEVER THE INPUT: true; the input reads as it did. -/
def transducerImagesAreReachedSpec : ChangeSpec := { name := "transducerImagesAreReached", fn := fun _ => fun
  | [d1, d2, d3] => { results := [.lit (.bool true)], args := [d1, d2, d3] }
  | _ => none }
def transducerImagesAreReachedRow : OpenClaim := { program := "ytmohebpaonkaeaagreatdoor", sum := "4aa26ea9f3070b7af10fd57fbaa22c1adf54e745b07f6c85458a7207241a034e", func := "univocal/univocallaw07.TransducerImagesAreReached", spec := "transducerImagesAreReached", unfollowed := true, recurses := true, named := ["math/bits.deBruijn64tab"], plainKeys := false, apart := false, laid := [("math/bits.deBruijn64tab", laid_math_bits_deBruijn64tab)] }
def TransducerImagesAreReachedSaid : Prop := transducerImagesAreReachedRow.holds Tryz.pinned (OpenSpec.ofChange transducerImagesAreReachedSpec)

/-- ITS FALSE NEIGHBOUR: 'it returns false'. Refute it at one input. -/
def transducerImagesAreReachedWrong : ChangeSpec := { name := "transducerImagesAreReached", fn := fun _ => fun
  | [d1, d2, d3] => { results := [.lit (.bool false)], args := [d1, d2, d3] }
  | _ => none }
def TransducerImagesAreReachedWrongFalsely : Prop := transducerImagesAreReachedRow.holds Tryz.pinned (OpenSpec.ofChange transducerImagesAreReachedWrong)

/-- 'univocallaw07.TransducerComposition': WHATEVER THE INPUT: true; the input reads as it did. -/
def transducerCompositionSpec : ChangeSpec := { name := "transducerComposition", fn := fun _ => fun
  | [d1, d2, d3] => { results := [.lit (.bool true)], args := [d1, d2, d3] }
  | _ => none }
def transducerCompositionRow : OpenClaim := { program := "ytmohebpaonkaeaagreatdoor", sum := "4aa26ea9f3070b7af10fd57fbaa22c1adf54e745b07f6c85458a7207241a034e", func := "univocal/univocallaw07.TransducerComposition", spec := "transducerComposition", unfollowed := true, recurses := true, named := ["math/bits.deBruijn64tab"], plainKeys := false, apart := false, laid := [("math/bits.deBruijn64tab", laid_math_bits_deBruijn64tab)] }
def TransducerCompositionSaid : Prop := transducerCompositionRow.holds Tryz.pinned (OpenSpec.ofChange transducerCompositionSpec)

/-- ITS FALSE NEIGHBOUR: 'it returns false'. Refute it at one input. -/
def transducerCompositionWrong : ChangeSpec := { name := "transducerComposition", fn := fun _ => fun
  | [d1, d2, d3] => { results := [.lit (.bool false)], args := [d1, d2, d3] }
  | _ => none }
def TransducerCompositionWrongFalsely : Prop := transducerCompositionRow.holds Tryz.pinned (OpenSpec.ofChange transducerCompositionWrong)

/-- 'univocallaw07.TransducerPreimagesCompose': WHATEVER THE INPUT: true; the input reads as it did. -/
def transducerPreimagesComposeSpec : ChangeSpec := { name := "transducerPreimagesCompose", fn := fun _ => fun
  | [d1, d2, d3] => { results := [.lit (.bool true)], args := [d1, d2, d3] }
  | _ => none }
def transducerPreimagesComposeRow : OpenClaim := { program := "ytmohebpaonkaeaagreatdoor", sum := "4aa26ea9f3070b7af10fd57fbaa22c1adf54e745b07f6c85458a7207241a034e", func := "univocal/univocallaw07.TransducerPreimagesCompose", spec := "transducerPreimagesCompose", unfollowed := true, recurses := true, named := ["math/bits.deBruijn64tab"], plainKeys := false, apart := false, laid := [("math/bits.deBruijn64tab", laid_math_bits_deBruijn64tab)] }
def TransducerPreimagesComposeSaid : Prop := transducerPreimagesComposeRow.holds Tryz.pinned (OpenSpec.ofChange transducerPreimagesComposeSpec)

/-- ITS FALSE NEIGHBOUR: 'it returns false'. Refute it at one input. -/
def transducerPreimagesComposeWrong : ChangeSpec := { name := "transducerPreimagesCompose", fn := fun _ => fun
  | [d1, d2, d3] => { results := [.lit (.bool false)], args := [d1, d2, d3] }
  | _ => none }
def TransducerPreimagesComposeWrongFalsely : Prop := transducerPreimagesComposeRow.holds Tryz.pinned (OpenSpec.ofChange transducerPreimagesComposeWrong)

/-- 'univocallaw07.TransducerApart': WHATEVER THE INPUT: true; the input reads as it did. -/
def transducerApartSpec : ChangeSpec := { name := "transducerApart", fn := fun _ => fun
  | [d1, d2, d3] => { results := [.lit (.bool true)], args := [d1, d2, d3] }
  | _ => none }
def transducerApartRow : OpenClaim := { program := "ytmohebpaonkaeaagreatdoor", sum := "4aa26ea9f3070b7af10fd57fbaa22c1adf54e745b07f6c85458a7207241a034e", func := "univocal/univocallaw07.TransducerApart", spec := "transducerApart", unfollowed := true, recurses := true, named := ["math/bits.deBruijn64tab"], plainKeys := false, apart := false, laid := [("math/bits.deBruijn64tab", laid_math_bits_deBruijn64tab)] }
def TransducerApartSaid : Prop := transducerApartRow.holds Tryz.pinned (OpenSpec.ofChange transducerApartSpec)

/-- ITS FALSE NEIGHBOUR: 'it returns false'. Refute it at one input. -/
def transducerApartWrong : ChangeSpec := { name := "transducerApart", fn := fun _ => fun
  | [d1, d2, d3] => { results := [.lit (.bool false)], args := [d1, d2, d3] }
  | _ => none }
def TransducerApartWrongFalsely : Prop := transducerApartRow.holds Tryz.pinned (OpenSpec.ofChange transducerApartWrong)

/-- 'univocallaw07.TransducerPreimages': WHATEVER THE INPUT: true; the input reads as it did. -/
def transducerPreimagesSpec : ChangeSpec := { name := "transducerPreimages", fn := fun _ => fun
  | [d1, d2, d3] => { results := [.lit (.bool true)], args := [d1, d2, d3] }
  | _ => none }
def transducerPreimagesRow : OpenClaim := { program := "ytmohebpaonkaeaagreatdoor", sum := "4aa26ea9f3070b7af10fd57fbaa22c1adf54e745b07f6c85458a7207241a034e", func := "univocal/univocallaw07.TransducerPreimages", spec := "transducerPreimages", unfollowed := true, recurses := true, named := ["math/bits.deBruijn64tab"], plainKeys := false, apart := false, laid := [("math/bits.deBruijn64tab", laid_math_bits_deBruijn64tab)] }
def TransducerPreimagesSaid : Prop := transducerPreimagesRow.holds Tryz.pinned (OpenSpec.ofChange transducerPreimagesSpec)

/-- ITS FALSE NEIGHBOUR: 'it returns false'. Refute it at one input. -/
def transducerPreimagesWrong : ChangeSpec := { name := "transducerPreimages", fn := fun _ => fun
  | [d1, d2, d3] => { results := [.lit (.bool false)], args := [d1, d2, d3] }
  | _ => none }
def TransducerPreimagesWrongFalsely : Prop := transducerPreimagesRow.holds Tryz.pinned (OpenSpec.ofChange transducerPreimagesWrong)

/- THE SECOND FORM. 'bulk': how many values and letters a reading holds, each counted each time it is reached (what is shared counts as often as it is met; a slice's spare places count too). A statement '..UptoSaid' is the law's where the arguments, and the package variables that the reading takes, are together of bulk at most 1048576: NARROWER than '..Said'. Prove '..Said' where nothing that the law and all that it calls make is longer than what came in: it says more and counts as full. Else prove '..UptoSaid'. A law counts once. -/
mutual
def uptoBulk {H : Type} : DataW H → Nat
  | .lit (.string bytes) => bytes.length + 1
  | .lit _ => 1
  | .nil => 1
  | .ptr d => uptoBulk d + 1
  | .slice elems spare => uptoBulkAll elems + uptoBulkAll spare + 1
  | .agg parts => uptoBulkAll parts + 1
  | .iface _ d => uptoBulk d + 1
  | .map entries => uptoBulkEntries entries + 1
  | .held _ => 1
def uptoBulkAll {H : Type} : List (DataW H) → Nat
  | [] => 0
  | d :: r => uptoBulk d + uptoBulkAll r
def uptoBulkEntries {H : Type} : List (Lit × DataW H) → Nat
  | [] => 0
  | x :: r => uptoBulkEntry x + uptoBulkEntries r
def uptoBulkEntry {H : Type} : Lit × DataW H → Nat
  | (.string bytes, d) => bytes.length + uptoBulk d + 1
  | (_, d) => uptoBulk d + 1
 end
def uptoSmall : (H : Type) → List (DataW H) → Bool := fun _ ds => decide (uptoBulkAll ds ≤ 1048576)
def OpenSpec.upto (s : _root_.Go.ChangeSpec) : _root_.Go.OpenSpec := { _root_.Go.OpenSpec.ofChange s with cond := some uptoSmall }

/-- 'univocallaw07.TransducerMatchesReference', WHERE WHAT IT READS IS OF BULK AT MOST 1048576: true; the input reads as it did. -/
def transducerMatchesReferenceUptoRow : OpenClaim := { program := "ytmohebpaonkaeaagreatdoor", sum := "4aa26ea9f3070b7af10fd57fbaa22c1adf54e745b07f6c85458a7207241a034e", func := "univocal/univocallaw07.TransducerMatchesReference", spec := "transducerMatchesReference", unfollowed := true, recurses := true, named := ["math/bits.deBruijn64tab"], plainKeys := false, apart := false, laid := [("math/bits.deBruijn64tab", laid_math_bits_deBruijn64tab)], narrowed := true }
def TransducerMatchesReferenceUptoSaid : Prop := transducerMatchesReferenceUptoRow.holds Tryz.pinned (OpenSpec.upto transducerMatchesReferenceSpec)

/-- 'univocallaw07.TransducerChecksMachines', WHERE WHAT IT READS IS OF BULK AT MOST 1048576: true; the input reads as it did. -/
def transducerChecksMachinesUptoRow : OpenClaim := { program := "ytmohebpaonkaeaagreatdoor", sum := "4aa26ea9f3070b7af10fd57fbaa22c1adf54e745b07f6c85458a7207241a034e", func := "univocal/univocallaw07.TransducerChecksMachines", spec := "transducerChecksMachines", unfollowed := true, recurses := true, named := ["math/bits.deBruijn64tab"], plainKeys := false, apart := false, laid := [("math/bits.deBruijn64tab", laid_math_bits_deBruijn64tab)], narrowed := true }
def TransducerChecksMachinesUptoSaid : Prop := transducerChecksMachinesUptoRow.holds Tryz.pinned (OpenSpec.upto transducerChecksMachinesSpec)

/-- 'univocallaw07.TransducerComposeMatchesReference', WHERE WHAT IT READS IS OF BULK AT MOST 1048576: true; the input reads as it did. -/
def transducerComposeMatchesReferenceUptoRow : OpenClaim := { program := "ytmohebpaonkaeaagreatdoor", sum := "4aa26ea9f3070b7af10fd57fbaa22c1adf54e745b07f6c85458a7207241a034e", func := "univocal/univocallaw07.TransducerComposeMatchesReference", spec := "transducerComposeMatchesReference", unfollowed := true, recurses := true, named := ["math/bits.deBruijn64tab"], plainKeys := false, apart := false, laid := [("math/bits.deBruijn64tab", laid_math_bits_deBruijn64tab)], narrowed := true }
def TransducerComposeMatchesReferenceUptoSaid : Prop := transducerComposeMatchesReferenceUptoRow.holds Tryz.pinned (OpenSpec.upto transducerComposeMatchesReferenceSpec)

/-- 'univocallaw07.TransducerDomain', WHERE WHAT IT READS IS OF BULK AT MOST 1048576: true; the input reads as it did. -/
def transducerDomainUptoRow : OpenClaim := { program := "ytmohebpaonkaeaagreatdoor", sum := "4aa26ea9f3070b7af10fd57fbaa22c1adf54e745b07f6c85458a7207241a034e", func := "univocal/univocallaw07.TransducerDomain", spec := "transducerDomain", unfollowed := true, recurses := true, named := ["math/bits.deBruijn64tab"], plainKeys := false, apart := false, laid := [("math/bits.deBruijn64tab", laid_math_bits_deBruijn64tab)], narrowed := true }
def TransducerDomainUptoSaid : Prop := transducerDomainUptoRow.holds Tryz.pinned (OpenSpec.upto transducerDomainSpec)

/-- 'univocallaw07.TransducerImagesAreReached', WHERE WHAT IT READS IS OF BULK AT MOST 1048576: true; the input reads as it did. -/
def transducerImagesAreReachedUptoRow : OpenClaim := { program := "ytmohebpaonkaeaagreatdoor", sum := "4aa26ea9f3070b7af10fd57fbaa22c1adf54e745b07f6c85458a7207241a034e", func := "univocal/univocallaw07.TransducerImagesAreReached", spec := "transducerImagesAreReached", unfollowed := true, recurses := true, named := ["math/bits.deBruijn64tab"], plainKeys := false, apart := false, laid := [("math/bits.deBruijn64tab", laid_math_bits_deBruijn64tab)], narrowed := true }
def TransducerImagesAreReachedUptoSaid : Prop := transducerImagesAreReachedUptoRow.holds Tryz.pinned (OpenSpec.upto transducerImagesAreReachedSpec)

/-- 'univocallaw07.TransducerComposition', WHERE WHAT IT READS IS OF BULK AT MOST 1048576: true; the input reads as it did. -/
def transducerCompositionUptoRow : OpenClaim := { program := "ytmohebpaonkaeaagreatdoor", sum := "4aa26ea9f3070b7af10fd57fbaa22c1adf54e745b07f6c85458a7207241a034e", func := "univocal/univocallaw07.TransducerComposition", spec := "transducerComposition", unfollowed := true, recurses := true, named := ["math/bits.deBruijn64tab"], plainKeys := false, apart := false, laid := [("math/bits.deBruijn64tab", laid_math_bits_deBruijn64tab)], narrowed := true }
def TransducerCompositionUptoSaid : Prop := transducerCompositionUptoRow.holds Tryz.pinned (OpenSpec.upto transducerCompositionSpec)

/-- 'univocallaw07.TransducerPreimagesCompose', WHERE WHAT IT READS IS OF BULK AT MOST 1048576: true; the input reads as it did. -/
def transducerPreimagesComposeUptoRow : OpenClaim := { program := "ytmohebpaonkaeaagreatdoor", sum := "4aa26ea9f3070b7af10fd57fbaa22c1adf54e745b07f6c85458a7207241a034e", func := "univocal/univocallaw07.TransducerPreimagesCompose", spec := "transducerPreimagesCompose", unfollowed := true, recurses := true, named := ["math/bits.deBruijn64tab"], plainKeys := false, apart := false, laid := [("math/bits.deBruijn64tab", laid_math_bits_deBruijn64tab)], narrowed := true }
def TransducerPreimagesComposeUptoSaid : Prop := transducerPreimagesComposeUptoRow.holds Tryz.pinned (OpenSpec.upto transducerPreimagesComposeSpec)

/-- 'univocallaw07.TransducerApart', WHERE WHAT IT READS IS OF BULK AT MOST 1048576: true; the input reads as it did. -/
def transducerApartUptoRow : OpenClaim := { program := "ytmohebpaonkaeaagreatdoor", sum := "4aa26ea9f3070b7af10fd57fbaa22c1adf54e745b07f6c85458a7207241a034e", func := "univocal/univocallaw07.TransducerApart", spec := "transducerApart", unfollowed := true, recurses := true, named := ["math/bits.deBruijn64tab"], plainKeys := false, apart := false, laid := [("math/bits.deBruijn64tab", laid_math_bits_deBruijn64tab)], narrowed := true }
def TransducerApartUptoSaid : Prop := transducerApartUptoRow.holds Tryz.pinned (OpenSpec.upto transducerApartSpec)

/-- 'univocallaw07.TransducerPreimages', WHERE WHAT IT READS IS OF BULK AT MOST 1048576: true; the input reads as it did. -/
def transducerPreimagesUptoRow : OpenClaim := { program := "ytmohebpaonkaeaagreatdoor", sum := "4aa26ea9f3070b7af10fd57fbaa22c1adf54e745b07f6c85458a7207241a034e", func := "univocal/univocallaw07.TransducerPreimages", spec := "transducerPreimages", unfollowed := true, recurses := true, named := ["math/bits.deBruijn64tab"], plainKeys := false, apart := false, laid := [("math/bits.deBruijn64tab", laid_math_bits_deBruijn64tab)], narrowed := true }
def TransducerPreimagesUptoSaid : Prop := transducerPreimagesUptoRow.holds Tryz.pinned (OpenSpec.upto transducerPreimagesSpec)

end Rows
end Go.Proofs.YtmohebpaonkaeaaGreatDoor
