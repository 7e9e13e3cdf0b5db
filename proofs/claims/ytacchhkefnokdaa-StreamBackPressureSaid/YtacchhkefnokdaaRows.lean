/-
  No cell of these rows narrows 'for every input' (looked for: loops, veiled, ifaces, maps, wideKeys, modest, calm, conditions, laid).
  DERIVED. THE GIVEN ROWS OF THIS SEAT. 8 by the template 'for every input the law returns true; each argument reads behind the call as it read before'; 0 by the template 'total and deterministic' (their statements: YtacchhkefnokdaaTotals.lean).
  GIVEN WITH THE SEED: the statements are not yours to turn. If you find one false, say at which input.
  Laid BY PROGRAM, IN A SANDBOX (cutbox-rows.mjs): the forced cells as the released guide's own fill.sh prints them over the translation 0118bb34bd3dcb1e… (all of the seat's roots in one cut). By AI agents, Wed Nov 11 2026. No macro, syntax, notation, axiom, sorry.
-/
import Derived.Test.YtacchhkefnokdaaChecked
import GoSem.Claim
import GoSem.ClaimJoined
import GoSem.ClaimMapViews
import Derived.JoinedTies
import Derived.KernelRfl
namespace Go.Proofs.Ytacchhkefnokdaa
/- THE CELL 'sum', in the pinned program and in every row, IS THE sha256 OF THE DUMP (.gsa) THAT YtacchhkefnokdaaProg.lean LOADS. Nothing in Lean hashes anything: it is a label: what it is worth is what the hold of that sum in a sandbox is worth. -/
noncomputable def Try.pinned : Pinned := { name := "ytacchhkefnokdaa", sum := "0118bb34bd3dcb1e56a91637e6cd12889dd9a9342115f4091e76373685b074cd", checked := Try.checked }
namespace Rows
def none {H : Type} : Left H := { results := [], args := [] }

/-- 'univocallaw32.StreamMatchesReference': WHATEVER THE INPUT: true; the input reads as it did. -/
def streamMatchesReferenceSpec : ChangeSpec := { name := "streamMatchesReference", fn := fun _ => fun
  | [d1, d2, d3] => { results := [.lit (.bool true)], args := [d1, d2, d3] }
  | _ => none }
def streamMatchesReferenceRow : OpenClaim := { program := "ytacchhkefnokdaa", sum := "0118bb34bd3dcb1e56a91637e6cd12889dd9a9342115f4091e76373685b074cd", func := "univocal/univocallaw32.StreamMatchesReference", spec := "streamMatchesReference", unfollowed := true, recurses := true, apart := false }
def StreamMatchesReferenceSaid : Prop := streamMatchesReferenceRow.holds Try.pinned (OpenSpec.ofChange streamMatchesReferenceSpec)

/-- ITS FALSE NEIGHBOUR: 'it returns false'. Refute it at one input. -/
def streamMatchesReferenceWrong : ChangeSpec := { name := "streamMatchesReference", fn := fun _ => fun
  | [d1, d2, d3] => { results := [.lit (.bool false)], args := [d1, d2, d3] }
  | _ => none }
def StreamMatchesReferenceWrongFalsely : Prop := streamMatchesReferenceRow.holds Try.pinned (OpenSpec.ofChange streamMatchesReferenceWrong)

/-- 'univocallaw32.StreamFeedsMatchReference': WHATEVER THE INPUT: true; the input reads as it did. -/
def streamFeedsMatchReferenceSpec : ChangeSpec := { name := "streamFeedsMatchReference", fn := fun _ => fun
  | [d1, d2, d3] => { results := [.lit (.bool true)], args := [d1, d2, d3] }
  | _ => none }
def streamFeedsMatchReferenceRow : OpenClaim := { program := "ytacchhkefnokdaa", sum := "0118bb34bd3dcb1e56a91637e6cd12889dd9a9342115f4091e76373685b074cd", func := "univocal/univocallaw32.StreamFeedsMatchReference", spec := "streamFeedsMatchReference", unfollowed := true, recurses := true, apart := false }
def StreamFeedsMatchReferenceSaid : Prop := streamFeedsMatchReferenceRow.holds Try.pinned (OpenSpec.ofChange streamFeedsMatchReferenceSpec)

/-- ITS FALSE NEIGHBOUR: 'it returns false'. Refute it at one input. -/
def streamFeedsMatchReferenceWrong : ChangeSpec := { name := "streamFeedsMatchReference", fn := fun _ => fun
  | [d1, d2, d3] => { results := [.lit (.bool false)], args := [d1, d2, d3] }
  | _ => none }
def StreamFeedsMatchReferenceWrongFalsely : Prop := streamFeedsMatchReferenceRow.holds Try.pinned (OpenSpec.ofChange streamFeedsMatchReferenceWrong)

/-- 'univocallaw32.StreamPiecesJoin': WHATEVER THE INPUT: true; the input reads as it did. -/
def streamPiecesJoinSpec : ChangeSpec := { name := "streamPiecesJoin", fn := fun _ => fun
  | [d1, d2] => { results := [.lit (.bool true)], args := [d1, d2] }
  | _ => none }
def streamPiecesJoinRow : OpenClaim := { program := "ytacchhkefnokdaa", sum := "0118bb34bd3dcb1e56a91637e6cd12889dd9a9342115f4091e76373685b074cd", func := "univocal/univocallaw32.StreamPiecesJoin", spec := "streamPiecesJoin", unfollowed := true, recurses := true, apart := false }
def StreamPiecesJoinSaid : Prop := streamPiecesJoinRow.holds Try.pinned (OpenSpec.ofChange streamPiecesJoinSpec)

/-- ITS FALSE NEIGHBOUR: 'it returns false'. Refute it at one input. -/
def streamPiecesJoinWrong : ChangeSpec := { name := "streamPiecesJoin", fn := fun _ => fun
  | [d1, d2] => { results := [.lit (.bool false)], args := [d1, d2] }
  | _ => none }
def StreamPiecesJoinWrongFalsely : Prop := streamPiecesJoinRow.holds Try.pinned (OpenSpec.ofChange streamPiecesJoinWrong)

/-- 'univocallaw32.StreamCutsDoNotMatter': WHATEVER THE INPUT: true; the input reads as it did. -/
def streamCutsDoNotMatterSpec : ChangeSpec := { name := "streamCutsDoNotMatter", fn := fun _ => fun
  | [d1, d2] => { results := [.lit (.bool true)], args := [d1, d2] }
  | _ => none }
def streamCutsDoNotMatterRow : OpenClaim := { program := "ytacchhkefnokdaa", sum := "0118bb34bd3dcb1e56a91637e6cd12889dd9a9342115f4091e76373685b074cd", func := "univocal/univocallaw32.StreamCutsDoNotMatter", spec := "streamCutsDoNotMatter", unfollowed := true, recurses := true, apart := false }
def StreamCutsDoNotMatterSaid : Prop := streamCutsDoNotMatterRow.holds Try.pinned (OpenSpec.ofChange streamCutsDoNotMatterSpec)

/-- ITS FALSE NEIGHBOUR: 'it returns false'. Refute it at one input. -/
def streamCutsDoNotMatterWrong : ChangeSpec := { name := "streamCutsDoNotMatter", fn := fun _ => fun
  | [d1, d2] => { results := [.lit (.bool false)], args := [d1, d2] }
  | _ => none }
def StreamCutsDoNotMatterWrongFalsely : Prop := streamCutsDoNotMatterRow.holds Try.pinned (OpenSpec.ofChange streamCutsDoNotMatterWrong)

/-- 'univocallaw32.StreamFramesArrive': WHATEVER THE INPUT: true; the input reads as it did. -/
def streamFramesArriveSpec : ChangeSpec := { name := "streamFramesArrive", fn := fun _ => fun
  | [d1, d2, d3] => { results := [.lit (.bool true)], args := [d1, d2, d3] }
  | _ => none }
def streamFramesArriveRow : OpenClaim := { program := "ytacchhkefnokdaa", sum := "0118bb34bd3dcb1e56a91637e6cd12889dd9a9342115f4091e76373685b074cd", func := "univocal/univocallaw32.StreamFramesArrive", spec := "streamFramesArrive", unfollowed := true, recurses := true, apart := false }
def StreamFramesArriveSaid : Prop := streamFramesArriveRow.holds Try.pinned (OpenSpec.ofChange streamFramesArriveSpec)

/-- ITS FALSE NEIGHBOUR: 'it returns false'. Refute it at one input. -/
def streamFramesArriveWrong : ChangeSpec := { name := "streamFramesArrive", fn := fun _ => fun
  | [d1, d2, d3] => { results := [.lit (.bool false)], args := [d1, d2, d3] }
  | _ => none }
def StreamFramesArriveWrongFalsely : Prop := streamFramesArriveRow.holds Try.pinned (OpenSpec.ofChange streamFramesArriveWrong)

/-- 'univocallaw32.StreamCreditsWait': WHATEVER THE INPUT: true; the input reads as it did. -/
def streamCreditsWaitSpec : ChangeSpec := { name := "streamCreditsWait", fn := fun _ => fun
  | [d1, d2] => { results := [.lit (.bool true)], args := [d1, d2] }
  | _ => none }
def streamCreditsWaitRow : OpenClaim := { program := "ytacchhkefnokdaa", sum := "0118bb34bd3dcb1e56a91637e6cd12889dd9a9342115f4091e76373685b074cd", func := "univocal/univocallaw32.StreamCreditsWait", spec := "streamCreditsWait", unfollowed := true, recurses := true, apart := false }
def StreamCreditsWaitSaid : Prop := streamCreditsWaitRow.holds Try.pinned (OpenSpec.ofChange streamCreditsWaitSpec)

/-- ITS FALSE NEIGHBOUR: 'it returns false'. Refute it at one input. -/
def streamCreditsWaitWrong : ChangeSpec := { name := "streamCreditsWait", fn := fun _ => fun
  | [d1, d2] => { results := [.lit (.bool false)], args := [d1, d2] }
  | _ => none }
def StreamCreditsWaitWrongFalsely : Prop := streamCreditsWaitRow.holds Try.pinned (OpenSpec.ofChange streamCreditsWaitWrong)

/-- 'univocallaw32.StreamFailuresAreFinal': WHATEVER THE INPUT: true; the input reads as it did. -/
def streamFailuresAreFinalSpec : ChangeSpec := { name := "streamFailuresAreFinal", fn := fun _ => fun
  | [d1, d2, d3] => { results := [.lit (.bool true)], args := [d1, d2, d3] }
  | _ => none }
def streamFailuresAreFinalRow : OpenClaim := { program := "ytacchhkefnokdaa", sum := "0118bb34bd3dcb1e56a91637e6cd12889dd9a9342115f4091e76373685b074cd", func := "univocal/univocallaw32.StreamFailuresAreFinal", spec := "streamFailuresAreFinal", unfollowed := true, recurses := true, apart := false }
def StreamFailuresAreFinalSaid : Prop := streamFailuresAreFinalRow.holds Try.pinned (OpenSpec.ofChange streamFailuresAreFinalSpec)

/-- ITS FALSE NEIGHBOUR: 'it returns false'. Refute it at one input. -/
def streamFailuresAreFinalWrong : ChangeSpec := { name := "streamFailuresAreFinal", fn := fun _ => fun
  | [d1, d2, d3] => { results := [.lit (.bool false)], args := [d1, d2, d3] }
  | _ => none }
def StreamFailuresAreFinalWrongFalsely : Prop := streamFailuresAreFinalRow.holds Try.pinned (OpenSpec.ofChange streamFailuresAreFinalWrong)

/-- 'univocallaw32.StreamBackPressure': WHATEVER THE INPUT: true; the input reads as it did. -/
def streamBackPressureSpec : ChangeSpec := { name := "streamBackPressure", fn := fun _ => fun
  | [d1, d2] => { results := [.lit (.bool true)], args := [d1, d2] }
  | _ => none }
def streamBackPressureRow : OpenClaim := { program := "ytacchhkefnokdaa", sum := "0118bb34bd3dcb1e56a91637e6cd12889dd9a9342115f4091e76373685b074cd", func := "univocal/univocallaw32.StreamBackPressure", spec := "streamBackPressure", unfollowed := true, recurses := true, apart := false }
def StreamBackPressureSaid : Prop := streamBackPressureRow.holds Try.pinned (OpenSpec.ofChange streamBackPressureSpec)

/-- ITS FALSE NEIGHBOUR: 'it returns false'. Refute it at one input. -/
def streamBackPressureWrong : ChangeSpec := { name := "streamBackPressure", fn := fun _ => fun
  | [d1, d2] => { results := [.lit (.bool false)], args := [d1, d2] }
  | _ => none }
def StreamBackPressureWrongFalsely : Prop := streamBackPressureRow.holds Try.pinned (OpenSpec.ofChange streamBackPressureWrong)

/- THE SECOND FORM. 'bulk': how many values and letters a reading holds, each counted each time it is reached (what is shared counts as often as it is met; a slice's spare places count too). A statement '..UptoSaid' is the law's where the arguments, and the package variables that the reading takes, are together of bulk at most 1048576: NARROWER than '..Said'. Prove '..Said' where nothing that the law and all that it calls make is longer than what came in: it says more and counts as full. Else prove '..UptoSaid'. A law counts once. -/
mutual
def uptoBulk {H : Type} : DataW H → Nat
  | .lit (.string bytes) => bytes.length + 1
  | .lit _ => 1
  | .nil => 1
  | .ptr d => uptoBulk d + 1
  | .slice elems spare => uptoBulkAll elems + uptoBulkAll spare + 1
  | .agg parts => uptoBulkAll parts + 1
  | .iface _ d => uptoBulk d + 1
  | .map entries => uptoBulkEntries entries + 1
  | .held _ => 1
def uptoBulkAll {H : Type} : List (DataW H) → Nat
  | [] => 0
  | d :: r => uptoBulk d + uptoBulkAll r
def uptoBulkEntries {H : Type} : List (Lit × DataW H) → Nat
  | [] => 0
  | x :: r => uptoBulkEntry x + uptoBulkEntries r
def uptoBulkEntry {H : Type} : Lit × DataW H → Nat
  | (.string bytes, d) => bytes.length + uptoBulk d + 1
  | (_, d) => uptoBulk d + 1
 end
def uptoSmall : (H : Type) → List (DataW H) → Bool := fun _ ds => decide (uptoBulkAll ds ≤ 1048576)
def OpenSpec.upto (s : _root_.Go.ChangeSpec) : _root_.Go.OpenSpec := { _root_.Go.OpenSpec.ofChange s with cond := some uptoSmall }

/-- 'univocallaw32.StreamMatchesReference', WHERE WHAT IT READS IS OF BULK AT MOST 1048576: true; the input reads as it did. -/
def streamMatchesReferenceUptoRow : OpenClaim := { program := "ytacchhkefnokdaa", sum := "0118bb34bd3dcb1e56a91637e6cd12889dd9a9342115f4091e76373685b074cd", func := "univocal/univocallaw32.StreamMatchesReference", spec := "streamMatchesReference", unfollowed := true, recurses := true, apart := false, narrowed := true }
def StreamMatchesReferenceUptoSaid : Prop := streamMatchesReferenceUptoRow.holds Try.pinned (OpenSpec.upto streamMatchesReferenceSpec)

/-- 'univocallaw32.StreamFeedsMatchReference', WHERE WHAT IT READS IS OF BULK AT MOST 1048576: true; the input reads as it did. -/
def streamFeedsMatchReferenceUptoRow : OpenClaim := { program := "ytacchhkefnokdaa", sum := "0118bb34bd3dcb1e56a91637e6cd12889dd9a9342115f4091e76373685b074cd", func := "univocal/univocallaw32.StreamFeedsMatchReference", spec := "streamFeedsMatchReference", unfollowed := true, recurses := true, apart := false, narrowed := true }
def StreamFeedsMatchReferenceUptoSaid : Prop := streamFeedsMatchReferenceUptoRow.holds Try.pinned (OpenSpec.upto streamFeedsMatchReferenceSpec)

/-- 'univocallaw32.StreamPiecesJoin', WHERE WHAT IT READS IS OF BULK AT MOST 1048576: true; the input reads as it did. -/
def streamPiecesJoinUptoRow : OpenClaim := { program := "ytacchhkefnokdaa", sum := "0118bb34bd3dcb1e56a91637e6cd12889dd9a9342115f4091e76373685b074cd", func := "univocal/univocallaw32.StreamPiecesJoin", spec := "streamPiecesJoin", unfollowed := true, recurses := true, apart := false, narrowed := true }
def StreamPiecesJoinUptoSaid : Prop := streamPiecesJoinUptoRow.holds Try.pinned (OpenSpec.upto streamPiecesJoinSpec)

/-- 'univocallaw32.StreamCutsDoNotMatter', WHERE WHAT IT READS IS OF BULK AT MOST 1048576: true; the input reads as it did. -/
def streamCutsDoNotMatterUptoRow : OpenClaim := { program := "ytacchhkefnokdaa", sum := "0118bb34bd3dcb1e56a91637e6cd12889dd9a9342115f4091e76373685b074cd", func := "univocal/univocallaw32.StreamCutsDoNotMatter", spec := "streamCutsDoNotMatter", unfollowed := true, recurses := true, apart := false, narrowed := true }
def StreamCutsDoNotMatterUptoSaid : Prop := streamCutsDoNotMatterUptoRow.holds Try.pinned (OpenSpec.upto streamCutsDoNotMatterSpec)

/-- 'univocallaw32.StreamFramesArrive', WHERE WHAT IT READS IS OF BULK AT MOST 1048576: true; the input reads as it did. -/
def streamFramesArriveUptoRow : OpenClaim := { program := "ytacchhkefnokdaa", sum := "0118bb34bd3dcb1e56a91637e6cd12889dd9a9342115f4091e76373685b074cd", func := "univocal/univocallaw32.StreamFramesArrive", spec := "streamFramesArrive", unfollowed := true, recurses := true, apart := false, narrowed := true }
def StreamFramesArriveUptoSaid : Prop := streamFramesArriveUptoRow.holds Try.pinned (OpenSpec.upto streamFramesArriveSpec)

/-- 'univocallaw32.StreamCreditsWait', WHERE WHAT IT READS IS OF BULK AT MOST 1048576: true; the input reads as it did. -/
def streamCreditsWaitUptoRow : OpenClaim := { program := "ytacchhkefnokdaa", sum := "0118bb34bd3dcb1e56a91637e6cd12889dd9a9342115f4091e76373685b074cd", func := "univocal/univocallaw32.StreamCreditsWait", spec := "streamCreditsWait", unfollowed := true, recurses := true, apart := false, narrowed := true }
def StreamCreditsWaitUptoSaid : Prop := streamCreditsWaitUptoRow.holds Try.pinned (OpenSpec.upto streamCreditsWaitSpec)

/-- 'univocallaw32.StreamFailuresAreFinal', WHERE WHAT IT READS IS OF BULK AT MOST 1048576: true; the input reads as it did. -/
def streamFailuresAreFinalUptoRow : OpenClaim := { program := "ytacchhkefnokdaa", sum := "0118bb34bd3dcb1e56a91637e6cd12889dd9a9342115f4091e76373685b074cd", func := "univocal/univocallaw32.StreamFailuresAreFinal", spec := "streamFailuresAreFinal", unfollowed := true, recurses := true, apart := false, narrowed := true }
def StreamFailuresAreFinalUptoSaid : Prop := streamFailuresAreFinalUptoRow.holds Try.pinned (OpenSpec.upto streamFailuresAreFinalSpec)

/-- 'univocallaw32.StreamBackPressure', WHERE WHAT IT READS IS OF BULK AT MOST 1048576: true; the input reads as it did. -/
def streamBackPressureUptoRow : OpenClaim := { program := "ytacchhkefnokdaa", sum := "0118bb34bd3dcb1e56a91637e6cd12889dd9a9342115f4091e76373685b074cd", func := "univocal/univocallaw32.StreamBackPressure", spec := "streamBackPressure", unfollowed := true, recurses := true, apart := false, narrowed := true }
def StreamBackPressureUptoSaid : Prop := streamBackPressureUptoRow.holds Try.pinned (OpenSpec.upto streamBackPressureSpec)

end Rows
end Go.Proofs.Ytacchhkefnokdaa
