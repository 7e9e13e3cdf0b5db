/-
  NARROWER THAN 'FOR EVERY INPUT', by the rows' own cells (each row's printed sentence says how): RewriteMatchesReference: laid · RewriteMachineComputes: laid · RewriteReplaceUnfolds: laid · RewriteRemoval: laid · RewriteConcatenation: laid.
  DERIVED. THE GIVEN ROWS OF THIS SEAT. 5 by the template 'for every input the law returns true; each argument reads behind the call as it read before'; 0 by the template 'total and deterministic' (their statements: YtffbfibpfnlfeaaGreatDoorTotals.lean).
  GIVEN WITH THE SEED: the statements are not yours to turn. If you find one false, say at which input.
  Laid BY PROGRAM, IN A SANDBOX (cutbox-rows.mjs): the forced cells as the released guide's own fill.sh prints them over the translation 74199271db4f86a9… (all of the seat's roots in one cut). By AI agents, Wed Nov 11 2026. No macro, syntax, notation, axiom, sorry.
-/
import Derived.Test.YtffbfibpfnlfeaaGreatDoorChecked
import GoSem.Claim
import GoSem.ClaimJoined
import GoSem.ClaimMapViews
import Derived.JoinedTies
import Derived.KernelRfl
namespace Go.Proofs.YtffbfibpfnlfeaaGreatDoor
/- THE CELL 'sum', in the pinned program and in every row, IS THE sha256 OF THE DUMP (.gsa) THAT YtffbfibpfnlfeaaGreatDoorProg.lean LOADS. Nothing in Lean hashes anything: it is a label: what it is worth is what the hold of that sum in a sandbox is worth. -/
noncomputable def Tryz.pinned : Pinned := { name := "ytffbfibpfnlfeaagreatdoor", sum := "74199271db4f86a903f79670dd75f71bba25ccb1835b14155bb5e1bafc68efbb", checked := Tryz.checked }
namespace Rows
def none {H : Type} : Left H := { results := [], args := [] }

/- WHAT THE LISTED PACKAGE-LEVEL VARIABLES READ AS WHEN THE CALL BEGINS. Each datum BY PROGRAM (the guide's laid-datum.mjs) off the statement by which the dump's own 'gosem.cut.vars' lays the variable. In a bare row this is a premise. The card (YtffbfibpfnlfeaaGreatDoorCards.lean) ties it to the program's text. -/
def laid_math_bits_deBruijn64tab {H : Type} : DataW H := .agg [.lit (.int .u8 0), .lit (.int .u8 1), .lit (.int .u8 56), .lit (.int .u8 2), .lit (.int .u8 57), .lit (.int .u8 49), .lit (.int .u8 28), .lit (.int .u8 3), .lit (.int .u8 61), .lit (.int .u8 58), .lit (.int .u8 42), .lit (.int .u8 50), .lit (.int .u8 38), .lit (.int .u8 29), .lit (.int .u8 17), .lit (.int .u8 4), .lit (.int .u8 62), .lit (.int .u8 47), .lit (.int .u8 59), .lit (.int .u8 36), .lit (.int .u8 45), .lit (.int .u8 43), .lit (.int .u8 51), .lit (.int .u8 22), .lit (.int .u8 53), .lit (.int .u8 39), .lit (.int .u8 33), .lit (.int .u8 30), .lit (.int .u8 24), .lit (.int .u8 18), .lit (.int .u8 12), .lit (.int .u8 5), .lit (.int .u8 63), .lit (.int .u8 55), .lit (.int .u8 48), .lit (.int .u8 27), .lit (.int .u8 60), .lit (.int .u8 41), .lit (.int .u8 37), .lit (.int .u8 16), .lit (.int .u8 46), .lit (.int .u8 35), .lit (.int .u8 44), .lit (.int .u8 21), .lit (.int .u8 52), .lit (.int .u8 32), .lit (.int .u8 23), .lit (.int .u8 11), .lit (.int .u8 54), .lit (.int .u8 26), .lit (.int .u8 40), .lit (.int .u8 15), .lit (.int .u8 34), .lit (.int .u8 20), .lit (.int .u8 31), .lit (.int .u8 10), .lit (.int .u8 25), .lit (.int .u8 14), .lit (.int .u8 19), .lit (.int .u8 9), .lit (.int .u8 13), .lit (.int .u8 8), .lit (.int .u8 7), .lit (.int .u8 6)]

/-- 'univocallaw08.RewriteMatchesReference': WHATEVER THE INPUT: true; the input reads as it did. -/
def rewriteMatchesReferenceSpec : ChangeSpec := { name := "rewriteMatchesReference", fn := fun _ => fun
  | [d1, d2, d3] => { results := [.lit (.bool true)], args := [d1, d2, d3] }
  | _ => none }
def rewriteMatchesReferenceRow : OpenClaim := { program := "ytffbfibpfnlfeaagreatdoor", sum := "74199271db4f86a903f79670dd75f71bba25ccb1835b14155bb5e1bafc68efbb", func := "univocal/univocallaw08.RewriteMatchesReference", spec := "rewriteMatchesReference", inPlace := ["internal/bytealg.IndexByte", "internal/bytealg.Index"], unfollowed := true, recurses := true, named := ["internal/bytealg.MaxLen", "math/bits.deBruijn64tab"], apart := false, laid := [("math/bits.deBruijn64tab", laid_math_bits_deBruijn64tab)] }
def RewriteMatchesReferenceSaid : Prop := rewriteMatchesReferenceRow.holds Tryz.pinned (OpenSpec.ofChange rewriteMatchesReferenceSpec)

/-- ITS FALSE NEIGHBOUR: 'it returns false'. Refute it at one input. -/
def rewriteMatchesReferenceWrong : ChangeSpec := { name := "rewriteMatchesReference", fn := fun _ => fun
  | [d1, d2, d3] => { results := [.lit (.bool false)], args := [d1, d2, d3] }
  | _ => none }
def RewriteMatchesReferenceWrongFalsely : Prop := rewriteMatchesReferenceRow.holds Tryz.pinned (OpenSpec.ofChange rewriteMatchesReferenceWrong)

/-- 'univocallaw08.RewriteMachineComputes': WHATEVER THE INPUT: true; the input reads as it did. -/
def rewriteMachineComputesSpec : ChangeSpec := { name := "rewriteMachineComputes", fn := fun _ => fun
  | [d1, d2] => { results := [.lit (.bool true)], args := [d1, d2] }
  | _ => none }
def rewriteMachineComputesRow : OpenClaim := { program := "ytffbfibpfnlfeaagreatdoor", sum := "74199271db4f86a903f79670dd75f71bba25ccb1835b14155bb5e1bafc68efbb", func := "univocal/univocallaw08.RewriteMachineComputes", spec := "rewriteMachineComputes", inPlace := ["internal/bytealg.IndexByte", "internal/bytealg.Index"], unfollowed := true, recurses := true, named := ["internal/bytealg.MaxLen", "math/bits.deBruijn64tab"], apart := false, laid := [("math/bits.deBruijn64tab", laid_math_bits_deBruijn64tab)] }
def RewriteMachineComputesSaid : Prop := rewriteMachineComputesRow.holds Tryz.pinned (OpenSpec.ofChange rewriteMachineComputesSpec)

/-- ITS FALSE NEIGHBOUR: 'it returns false'. Refute it at one input. -/
def rewriteMachineComputesWrong : ChangeSpec := { name := "rewriteMachineComputes", fn := fun _ => fun
  | [d1, d2] => { results := [.lit (.bool false)], args := [d1, d2] }
  | _ => none }
def RewriteMachineComputesWrongFalsely : Prop := rewriteMachineComputesRow.holds Tryz.pinned (OpenSpec.ofChange rewriteMachineComputesWrong)

/-- 'univocallaw08.RewriteReplaceUnfolds': WHATEVER THE INPUT: true; the input reads as it did. -/
def rewriteReplaceUnfoldsSpec : ChangeSpec := { name := "rewriteReplaceUnfolds", fn := fun _ => fun
  | [d1, d2] => { results := [.lit (.bool true)], args := [d1, d2] }
  | _ => none }
def rewriteReplaceUnfoldsRow : OpenClaim := { program := "ytffbfibpfnlfeaagreatdoor", sum := "74199271db4f86a903f79670dd75f71bba25ccb1835b14155bb5e1bafc68efbb", func := "univocal/univocallaw08.RewriteReplaceUnfolds", spec := "rewriteReplaceUnfolds", inPlace := ["internal/bytealg.IndexByte", "internal/bytealg.Index"], unfollowed := true, recurses := true, named := ["internal/bytealg.MaxLen", "math/bits.deBruijn64tab"], apart := false, laid := [("math/bits.deBruijn64tab", laid_math_bits_deBruijn64tab)] }
def RewriteReplaceUnfoldsSaid : Prop := rewriteReplaceUnfoldsRow.holds Tryz.pinned (OpenSpec.ofChange rewriteReplaceUnfoldsSpec)

/-- ITS FALSE NEIGHBOUR: 'it returns false'. Refute it at one input. -/
def rewriteReplaceUnfoldsWrong : ChangeSpec := { name := "rewriteReplaceUnfolds", fn := fun _ => fun
  | [d1, d2] => { results := [.lit (.bool false)], args := [d1, d2] }
  | _ => none }
def RewriteReplaceUnfoldsWrongFalsely : Prop := rewriteReplaceUnfoldsRow.holds Tryz.pinned (OpenSpec.ofChange rewriteReplaceUnfoldsWrong)

/-- 'univocallaw08.RewriteRemoval': WHATEVER THE INPUT: true; the input reads as it did. -/
def rewriteRemovalSpec : ChangeSpec := { name := "rewriteRemoval", fn := fun _ => fun
  | [d1, d2, d3] => { results := [.lit (.bool true)], args := [d1, d2, d3] }
  | _ => none }
def rewriteRemovalRow : OpenClaim := { program := "ytffbfibpfnlfeaagreatdoor", sum := "74199271db4f86a903f79670dd75f71bba25ccb1835b14155bb5e1bafc68efbb", func := "univocal/univocallaw08.RewriteRemoval", spec := "rewriteRemoval", inPlace := ["internal/bytealg.IndexByte", "internal/bytealg.Index"], unfollowed := true, recurses := true, named := ["internal/bytealg.MaxLen", "math/bits.deBruijn64tab"], apart := false, laid := [("math/bits.deBruijn64tab", laid_math_bits_deBruijn64tab)] }
def RewriteRemovalSaid : Prop := rewriteRemovalRow.holds Tryz.pinned (OpenSpec.ofChange rewriteRemovalSpec)

/-- ITS FALSE NEIGHBOUR: 'it returns false'. Refute it at one input. -/
def rewriteRemovalWrong : ChangeSpec := { name := "rewriteRemoval", fn := fun _ => fun
  | [d1, d2, d3] => { results := [.lit (.bool false)], args := [d1, d2, d3] }
  | _ => none }
def RewriteRemovalWrongFalsely : Prop := rewriteRemovalRow.holds Tryz.pinned (OpenSpec.ofChange rewriteRemovalWrong)

/-- 'univocallaw08.RewriteConcatenation': WHATEVER THE INPUT: true; the input reads as it did. -/
def rewriteConcatenationSpec : ChangeSpec := { name := "rewriteConcatenation", fn := fun _ => fun
  | [d1, d2, d3] => { results := [.lit (.bool true)], args := [d1, d2, d3] }
  | _ => none }
def rewriteConcatenationRow : OpenClaim := { program := "ytffbfibpfnlfeaagreatdoor", sum := "74199271db4f86a903f79670dd75f71bba25ccb1835b14155bb5e1bafc68efbb", func := "univocal/univocallaw08.RewriteConcatenation", spec := "rewriteConcatenation", inPlace := ["internal/bytealg.IndexByte", "internal/bytealg.Index"], unfollowed := true, recurses := true, named := ["internal/bytealg.MaxLen", "math/bits.deBruijn64tab"], apart := false, laid := [("math/bits.deBruijn64tab", laid_math_bits_deBruijn64tab)] }
def RewriteConcatenationSaid : Prop := rewriteConcatenationRow.holds Tryz.pinned (OpenSpec.ofChange rewriteConcatenationSpec)

/-- ITS FALSE NEIGHBOUR: 'it returns false'. Refute it at one input. -/
def rewriteConcatenationWrong : ChangeSpec := { name := "rewriteConcatenation", fn := fun _ => fun
  | [d1, d2, d3] => { results := [.lit (.bool false)], args := [d1, d2, d3] }
  | _ => none }
def RewriteConcatenationWrongFalsely : Prop := rewriteConcatenationRow.holds Tryz.pinned (OpenSpec.ofChange rewriteConcatenationWrong)

/- THE SECOND FORM. 'bulk': how many values and letters a reading holds, each counted each time it is reached (what is shared counts as often as it is met; a slice's spare places count too). A statement '..UptoSaid' is the law's where the arguments, and the package variables that the reading takes, are together of bulk at most 1048576: NARROWER than '..Said'. Prove '..Said' where nothing that the law and all that it calls make is longer than what came in: it says more and counts as full. Else prove '..UptoSaid'. A law counts once. -/
mutual
def uptoBulk {H : Type} : DataW H → Nat
  | .lit (.string bytes) => bytes.length + 1
  | .lit _ => 1
  | .nil => 1
  | .ptr d => uptoBulk d + 1
  | .slice elems spare => uptoBulkAll elems + uptoBulkAll spare + 1
  | .agg parts => uptoBulkAll parts + 1
  | .iface _ d => uptoBulk d + 1
  | .map entries => uptoBulkEntries entries + 1
  | .held _ => 1
def uptoBulkAll {H : Type} : List (DataW H) → Nat
  | [] => 0
  | d :: r => uptoBulk d + uptoBulkAll r
def uptoBulkEntries {H : Type} : List (Lit × DataW H) → Nat
  | [] => 0
  | x :: r => uptoBulkEntry x + uptoBulkEntries r
def uptoBulkEntry {H : Type} : Lit × DataW H → Nat
  | (.string bytes, d) => bytes.length + uptoBulk d + 1
  | (_, d) => uptoBulk d + 1
 end
def uptoSmall : (H : Type) → List (DataW H) → Bool := fun _ ds => decide (uptoBulkAll ds ≤ 1048576)
def OpenSpec.upto (s : _root_.Go.ChangeSpec) : _root_.Go.OpenSpec := { _root_.Go.OpenSpec.ofChange s with cond := some uptoSmall }

/-- 'univocallaw08.RewriteMatchesReference', WHERE WHAT IT READS IS OF BULK AT MOST 1048576: true; the input reads as it did. -/
def rewriteMatchesReferenceUptoRow : OpenClaim := { program := "ytffbfibpfnlfeaagreatdoor", sum := "74199271db4f86a903f79670dd75f71bba25ccb1835b14155bb5e1bafc68efbb", func := "univocal/univocallaw08.RewriteMatchesReference", spec := "rewriteMatchesReference", inPlace := ["internal/bytealg.IndexByte", "internal/bytealg.Index"], unfollowed := true, recurses := true, named := ["internal/bytealg.MaxLen", "math/bits.deBruijn64tab"], apart := false, laid := [("math/bits.deBruijn64tab", laid_math_bits_deBruijn64tab)], narrowed := true }
def RewriteMatchesReferenceUptoSaid : Prop := rewriteMatchesReferenceUptoRow.holds Tryz.pinned (OpenSpec.upto rewriteMatchesReferenceSpec)

/-- 'univocallaw08.RewriteMachineComputes', WHERE WHAT IT READS IS OF BULK AT MOST 1048576: true; the input reads as it did. -/
def rewriteMachineComputesUptoRow : OpenClaim := { program := "ytffbfibpfnlfeaagreatdoor", sum := "74199271db4f86a903f79670dd75f71bba25ccb1835b14155bb5e1bafc68efbb", func := "univocal/univocallaw08.RewriteMachineComputes", spec := "rewriteMachineComputes", inPlace := ["internal/bytealg.IndexByte", "internal/bytealg.Index"], unfollowed := true, recurses := true, named := ["internal/bytealg.MaxLen", "math/bits.deBruijn64tab"], apart := false, laid := [("math/bits.deBruijn64tab", laid_math_bits_deBruijn64tab)], narrowed := true }
def RewriteMachineComputesUptoSaid : Prop := rewriteMachineComputesUptoRow.holds Tryz.pinned (OpenSpec.upto rewriteMachineComputesSpec)

/-- 'univocallaw08.RewriteReplaceUnfolds', WHERE WHAT IT READS IS OF BULK AT MOST 1048576: true; the input reads as it did. -/
def rewriteReplaceUnfoldsUptoRow : OpenClaim := { program := "ytffbfibpfnlfeaagreatdoor", sum := "74199271db4f86a903f79670dd75f71bba25ccb1835b14155bb5e1bafc68efbb", func := "univocal/univocallaw08.RewriteReplaceUnfolds", spec := "rewriteReplaceUnfolds", inPlace := ["internal/bytealg.IndexByte", "internal/bytealg.Index"], unfollowed := true, recurses := true, named := ["internal/bytealg.MaxLen", "math/bits.deBruijn64tab"], apart := false, laid := [("math/bits.deBruijn64tab", laid_math_bits_deBruijn64tab)], narrowed := true }
def RewriteReplaceUnfoldsUptoSaid : Prop := rewriteReplaceUnfoldsUptoRow.holds Tryz.pinned (OpenSpec.upto rewriteReplaceUnfoldsSpec)

/-- 'univocallaw08.RewriteRemoval', WHERE WHAT IT READS IS OF BULK AT MOST 1048576: true; the input reads as it did. -/
def rewriteRemovalUptoRow : OpenClaim := { program := "ytffbfibpfnlfeaagreatdoor", sum := "74199271db4f86a903f79670dd75f71bba25ccb1835b14155bb5e1bafc68efbb", func := "univocal/univocallaw08.RewriteRemoval", spec := "rewriteRemoval", inPlace := ["internal/bytealg.IndexByte", "internal/bytealg.Index"], unfollowed := true, recurses := true, named := ["internal/bytealg.MaxLen", "math/bits.deBruijn64tab"], apart := false, laid := [("math/bits.deBruijn64tab", laid_math_bits_deBruijn64tab)], narrowed := true }
def RewriteRemovalUptoSaid : Prop := rewriteRemovalUptoRow.holds Tryz.pinned (OpenSpec.upto rewriteRemovalSpec)

/-- 'univocallaw08.RewriteConcatenation', WHERE WHAT IT READS IS OF BULK AT MOST 1048576: true; the input reads as it did. -/
def rewriteConcatenationUptoRow : OpenClaim := { program := "ytffbfibpfnlfeaagreatdoor", sum := "74199271db4f86a903f79670dd75f71bba25ccb1835b14155bb5e1bafc68efbb", func := "univocal/univocallaw08.RewriteConcatenation", spec := "rewriteConcatenation", inPlace := ["internal/bytealg.IndexByte", "internal/bytealg.Index"], unfollowed := true, recurses := true, named := ["internal/bytealg.MaxLen", "math/bits.deBruijn64tab"], apart := false, laid := [("math/bits.deBruijn64tab", laid_math_bits_deBruijn64tab)], narrowed := true }
def RewriteConcatenationUptoSaid : Prop := rewriteConcatenationUptoRow.holds Tryz.pinned (OpenSpec.upto rewriteConcatenationSpec)

end Rows
end Go.Proofs.YtffbfibpfnlfeaaGreatDoor
