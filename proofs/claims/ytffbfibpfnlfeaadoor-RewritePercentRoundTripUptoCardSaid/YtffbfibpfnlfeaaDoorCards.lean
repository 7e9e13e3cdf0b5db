/-
  DERIVED. GIVEN WITH THE SEED: THE CARDS: each row of YtffbfibpfnlfeaaDoorRows.lean that lists a variable, with what it lists TIED to the program's text (the seventh form; the later family's looks); each row that meets fmt, with fmt's text TOLD by the authors' own Lean function (tested against real Go, not proved from fmt's source: count such statements apart). THE CARD IS WHAT COUNTS. Prove the row's statement (the work); the ties are given (YtffbfibpfnlfeaaDoorTie.lean); close each card by the builder's one call (the guide's Derived/Test/ToyasCard.lean, 'card_holds'). Laid BY PROGRAM, IN A SANDBOX (cutbox-door.mjs). By AI agents, Wed Nov 11 2026. No macro, syntax, notation, axiom, sorry.
-/
import Derived.Test.YtffbfibpfnlfeaaDoorRows
import GoSem.ClaimSeven
namespace Go.Proofs.YtffbfibpfnlfeaaDoor
namespace Rows

/-- THE TIED CARD OF 'univocallaw08.RewriteCase'. -/
def rewriteCaseCard : Claim7 := { stood := { row := rewriteCaseRow, standIns := [], harness := (true, "d49b27b8e446268257208b806aa1ee7d482565e2890a7de02db1b887c77e119d"), looks := false }, kinds := [], alts := [], laidByText := true, laidKinds := [.data], laidTests := true, laidLooks := .later }
def RewriteCaseCardSaid : Prop := Claim7.holds Tryd.pinned (.plain (OpenSpec.ofChange rewriteCaseSpec)) rewriteCaseCard

/-- THE TIED CARD OF 'univocallaw08.RewritePercentRoundTrip'. -/
def rewritePercentRoundTripCard : Claim7 := { stood := { row := rewritePercentRoundTripRow, standIns := [], harness := (true, "d49b27b8e446268257208b806aa1ee7d482565e2890a7de02db1b887c77e119d"), looks := false }, kinds := [], alts := [], laidByText := true, laidKinds := [.data], laidTests := true, laidLooks := .later }
def RewritePercentRoundTripCardSaid : Prop := Claim7.holds Tryd.pinned (.plain (OpenSpec.ofChange rewritePercentRoundTripSpec)) rewritePercentRoundTripCard

/-- THE TIED CARD OF 'univocallaw08.RewriteRejectsInvalid'. -/
def rewriteRejectsInvalidCard : Claim7 := { stood := { row := rewriteRejectsInvalidRow, standIns := [], harness := (true, "d49b27b8e446268257208b806aa1ee7d482565e2890a7de02db1b887c77e119d"), looks := false }, kinds := [], alts := [], laidByText := true, laidKinds := [.data], laidTests := true, laidLooks := .later }
def RewriteRejectsInvalidCardSaid : Prop := Claim7.holds Tryd.pinned (.plain (OpenSpec.ofChange rewriteRejectsInvalidSpec)) rewriteRejectsInvalidCard

/-- THE SECOND FORM's CARD OF 'univocallaw08.RewriteCase'. -/
def rewriteCaseUptoCard : Claim7 := { stood := { row := rewriteCaseUptoRow, standIns := [], harness := (true, "d49b27b8e446268257208b806aa1ee7d482565e2890a7de02db1b887c77e119d"), looks := false }, kinds := [], alts := [], laidByText := true, laidKinds := [.data], laidTests := true, laidLooks := .later }
def RewriteCaseUptoCardSaid : Prop := Claim7.holds Tryd.pinned (.plain (OpenSpec.upto rewriteCaseSpec)) rewriteCaseUptoCard

/-- THE SECOND FORM's CARD OF 'univocallaw08.RewritePercentRoundTrip'. -/
def rewritePercentRoundTripUptoCard : Claim7 := { stood := { row := rewritePercentRoundTripUptoRow, standIns := [], harness := (true, "d49b27b8e446268257208b806aa1ee7d482565e2890a7de02db1b887c77e119d"), looks := false }, kinds := [], alts := [], laidByText := true, laidKinds := [.data], laidTests := true, laidLooks := .later }
def RewritePercentRoundTripUptoCardSaid : Prop := Claim7.holds Tryd.pinned (.plain (OpenSpec.upto rewritePercentRoundTripSpec)) rewritePercentRoundTripUptoCard

/-- THE SECOND FORM's CARD OF 'univocallaw08.RewriteRejectsInvalid'. -/
def rewriteRejectsInvalidUptoCard : Claim7 := { stood := { row := rewriteRejectsInvalidUptoRow, standIns := [], harness := (true, "d49b27b8e446268257208b806aa1ee7d482565e2890a7de02db1b887c77e119d"), looks := false }, kinds := [], alts := [], laidByText := true, laidKinds := [.data], laidTests := true, laidLooks := .later }
def RewriteRejectsInvalidUptoCardSaid : Prop := Claim7.holds Tryd.pinned (.plain (OpenSpec.upto rewriteRejectsInvalidSpec)) rewriteRejectsInvalidUptoCard
end Rows
end Go.Proofs.YtffbfibpfnlfeaaDoor
