/-
  DERIVED. GIVEN WITH THE SEED: THE CARDS: each row of YtffbfibpfnlfeaaGreatDoorRows.lean that lists a variable, with what it lists TIED to the program's text (the seventh form; the later family's looks); each row that meets fmt, with fmt's text TOLD by the authors' own Lean function (tested against real Go, not proved from fmt's source: count such statements apart). THE CARD IS WHAT COUNTS. Prove the row's statement (the work); the ties are given (YtffbfibpfnlfeaaGreatDoorTie.lean); close each card by the builder's one call (the guide's Derived/Test/ToyasCard.lean, 'card_holds'). Laid BY PROGRAM, IN A SANDBOX (cutbox-door.mjs). By AI agents, Wed Nov 11 2026. No macro, syntax, notation, axiom, sorry.
-/
import Derived.Test.YtffbfibpfnlfeaaGreatDoorRows
import GoSem.ClaimSeven
namespace Go.Proofs.YtffbfibpfnlfeaaGreatDoor
namespace Rows

/-- THE TIED CARD OF 'univocallaw08.RewriteMatchesReference'. -/
def rewriteMatchesReferenceCard : Claim7 := { stood := { row := rewriteMatchesReferenceRow, standIns := [], harness := (true, "f59dc3d9efc8e7dde9dc692cf5bc74bae136ffde51d7e48b9ec86b13a10f9abc"), looks := false }, kinds := [], alts := [], laidByText := true, laidKinds := [.data], laidTests := true, laidLooks := .later }
def RewriteMatchesReferenceCardSaid : Prop := Claim7.holds Tryz.pinned (.plain (OpenSpec.ofChange rewriteMatchesReferenceSpec)) rewriteMatchesReferenceCard

/-- THE TIED CARD OF 'univocallaw08.RewriteMachineComputes'. -/
def rewriteMachineComputesCard : Claim7 := { stood := { row := rewriteMachineComputesRow, standIns := [], harness := (true, "f59dc3d9efc8e7dde9dc692cf5bc74bae136ffde51d7e48b9ec86b13a10f9abc"), looks := false }, kinds := [], alts := [], laidByText := true, laidKinds := [.data], laidTests := true, laidLooks := .later }
def RewriteMachineComputesCardSaid : Prop := Claim7.holds Tryz.pinned (.plain (OpenSpec.ofChange rewriteMachineComputesSpec)) rewriteMachineComputesCard

/-- THE TIED CARD OF 'univocallaw08.RewriteReplaceUnfolds'. -/
def rewriteReplaceUnfoldsCard : Claim7 := { stood := { row := rewriteReplaceUnfoldsRow, standIns := [], harness := (true, "f59dc3d9efc8e7dde9dc692cf5bc74bae136ffde51d7e48b9ec86b13a10f9abc"), looks := false }, kinds := [], alts := [], laidByText := true, laidKinds := [.data], laidTests := true, laidLooks := .later }
def RewriteReplaceUnfoldsCardSaid : Prop := Claim7.holds Tryz.pinned (.plain (OpenSpec.ofChange rewriteReplaceUnfoldsSpec)) rewriteReplaceUnfoldsCard

/-- THE TIED CARD OF 'univocallaw08.RewriteRemoval'. -/
def rewriteRemovalCard : Claim7 := { stood := { row := rewriteRemovalRow, standIns := [], harness := (true, "f59dc3d9efc8e7dde9dc692cf5bc74bae136ffde51d7e48b9ec86b13a10f9abc"), looks := false }, kinds := [], alts := [], laidByText := true, laidKinds := [.data], laidTests := true, laidLooks := .later }
def RewriteRemovalCardSaid : Prop := Claim7.holds Tryz.pinned (.plain (OpenSpec.ofChange rewriteRemovalSpec)) rewriteRemovalCard

/-- THE TIED CARD OF 'univocallaw08.RewriteConcatenation'. -/
def rewriteConcatenationCard : Claim7 := { stood := { row := rewriteConcatenationRow, standIns := [], harness := (true, "f59dc3d9efc8e7dde9dc692cf5bc74bae136ffde51d7e48b9ec86b13a10f9abc"), looks := false }, kinds := [], alts := [], laidByText := true, laidKinds := [.data], laidTests := true, laidLooks := .later }
def RewriteConcatenationCardSaid : Prop := Claim7.holds Tryz.pinned (.plain (OpenSpec.ofChange rewriteConcatenationSpec)) rewriteConcatenationCard

/-- THE SECOND FORM's CARD OF 'univocallaw08.RewriteMatchesReference'. -/
def rewriteMatchesReferenceUptoCard : Claim7 := { stood := { row := rewriteMatchesReferenceUptoRow, standIns := [], harness := (true, "f59dc3d9efc8e7dde9dc692cf5bc74bae136ffde51d7e48b9ec86b13a10f9abc"), looks := false }, kinds := [], alts := [], laidByText := true, laidKinds := [.data], laidTests := true, laidLooks := .later }
def RewriteMatchesReferenceUptoCardSaid : Prop := Claim7.holds Tryz.pinned (.plain (OpenSpec.upto rewriteMatchesReferenceSpec)) rewriteMatchesReferenceUptoCard

/-- THE SECOND FORM's CARD OF 'univocallaw08.RewriteMachineComputes'. -/
def rewriteMachineComputesUptoCard : Claim7 := { stood := { row := rewriteMachineComputesUptoRow, standIns := [], harness := (true, "f59dc3d9efc8e7dde9dc692cf5bc74bae136ffde51d7e48b9ec86b13a10f9abc"), looks := false }, kinds := [], alts := [], laidByText := true, laidKinds := [.data], laidTests := true, laidLooks := .later }
def RewriteMachineComputesUptoCardSaid : Prop := Claim7.holds Tryz.pinned (.plain (OpenSpec.upto rewriteMachineComputesSpec)) rewriteMachineComputesUptoCard

/-- THE SECOND FORM's CARD OF 'univocallaw08.RewriteReplaceUnfolds'. -/
def rewriteReplaceUnfoldsUptoCard : Claim7 := { stood := { row := rewriteReplaceUnfoldsUptoRow, standIns := [], harness := (true, "f59dc3d9efc8e7dde9dc692cf5bc74bae136ffde51d7e48b9ec86b13a10f9abc"), looks := false }, kinds := [], alts := [], laidByText := true, laidKinds := [.data], laidTests := true, laidLooks := .later }
def RewriteReplaceUnfoldsUptoCardSaid : Prop := Claim7.holds Tryz.pinned (.plain (OpenSpec.upto rewriteReplaceUnfoldsSpec)) rewriteReplaceUnfoldsUptoCard

/-- THE SECOND FORM's CARD OF 'univocallaw08.RewriteRemoval'. -/
def rewriteRemovalUptoCard : Claim7 := { stood := { row := rewriteRemovalUptoRow, standIns := [], harness := (true, "f59dc3d9efc8e7dde9dc692cf5bc74bae136ffde51d7e48b9ec86b13a10f9abc"), looks := false }, kinds := [], alts := [], laidByText := true, laidKinds := [.data], laidTests := true, laidLooks := .later }
def RewriteRemovalUptoCardSaid : Prop := Claim7.holds Tryz.pinned (.plain (OpenSpec.upto rewriteRemovalSpec)) rewriteRemovalUptoCard

/-- THE SECOND FORM's CARD OF 'univocallaw08.RewriteConcatenation'. -/
def rewriteConcatenationUptoCard : Claim7 := { stood := { row := rewriteConcatenationUptoRow, standIns := [], harness := (true, "f59dc3d9efc8e7dde9dc692cf5bc74bae136ffde51d7e48b9ec86b13a10f9abc"), looks := false }, kinds := [], alts := [], laidByText := true, laidKinds := [.data], laidTests := true, laidLooks := .later }
def RewriteConcatenationUptoCardSaid : Prop := Claim7.holds Tryz.pinned (.plain (OpenSpec.upto rewriteConcatenationSpec)) rewriteConcatenationUptoCard
end Rows
end Go.Proofs.YtffbfibpfnlfeaaGreatDoor
