/-
  DERIVED. GIVEN WITH THE SEED: THE CARDS: each row of YtkeplgdofphnkaaGreatDoorRows.lean that lists a variable, with what it lists TIED to the program's text (the seventh form; the later family's looks); each row that meets fmt, with fmt's text TOLD by the authors' own Lean function (tested against real Go, not proved from fmt's source: count such statements apart). THE CARD IS WHAT COUNTS. Prove the row's statement (the work); the ties are given (YtkeplgdofphnkaaGreatDoorTie.lean); close each card by the builder's one call (the guide's Derived/Test/ToyasCard.lean, 'card_holds'). Laid BY PROGRAM, IN A SANDBOX (cutbox-door.mjs). By AI agents, Wed Nov 11 2026. No macro, syntax, notation, axiom, sorry.
-/
import Derived.Test.YtkeplgdofphnkaaGreatDoorRows
import GoSem.ClaimSeven
namespace Go.Proofs.YtkeplgdofphnkaaGreatDoor
namespace Rows

/-- THE TIED CARD OF 'univocallaw30.FleetMatchesReference'. -/
def fleetMatchesReferenceCard : Claim7 := { stood := { row := fleetMatchesReferenceRow, standIns := [], harness := (true, "8ce33fc88b6e58dfab6e278fb05047b386e9e1829d4ab407bcd1dff0a1b8a66e"), looks := false }, kinds := [], alts := [], laidByText := true, laidKinds := [.data], laidTests := true, laidLooks := .later }
def FleetMatchesReferenceCardSaid : Prop := Claim7.holds Tryz.pinned (.plain (OpenSpec.ofChange fleetMatchesReferenceSpec)) fleetMatchesReferenceCard

/-- THE TIED CARD OF 'univocallaw30.FleetPaths'. -/
def fleetPathsCard : Claim7 := { stood := { row := fleetPathsRow, standIns := [], harness := (true, "8ce33fc88b6e58dfab6e278fb05047b386e9e1829d4ab407bcd1dff0a1b8a66e"), looks := false }, kinds := [], alts := [], laidByText := true, laidKinds := [.data], laidTests := true, laidLooks := .later }
def FleetPathsCardSaid : Prop := Claim7.holds Tryz.pinned (.plain (OpenSpec.ofChange fleetPathsSpec)) fleetPathsCard

/-- THE TIED CARD OF 'univocallaw30.FleetVersions'. -/
def fleetVersionsCard : Claim7 := { stood := { row := fleetVersionsRow, standIns := [], harness := (true, "8ce33fc88b6e58dfab6e278fb05047b386e9e1829d4ab407bcd1dff0a1b8a66e"), looks := false }, kinds := [], alts := [], laidByText := true, laidKinds := [.data], laidTests := true, laidLooks := .later }
def FleetVersionsCardSaid : Prop := Claim7.holds Tryz.pinned (.plain (OpenSpec.ofChange fleetVersionsSpec)) fleetVersionsCard

/-- THE TIED CARD OF 'univocallaw30.FleetPairs'. -/
def fleetPairsCard : Claim7 := { stood := { row := fleetPairsRow, standIns := [], harness := (true, "8ce33fc88b6e58dfab6e278fb05047b386e9e1829d4ab407bcd1dff0a1b8a66e"), looks := false }, kinds := [], alts := [], laidByText := true, laidKinds := [.data], laidTests := true, laidLooks := .later }
def FleetPairsCardSaid : Prop := Claim7.holds Tryz.pinned (.plain (OpenSpec.ofChange fleetPairsSpec)) fleetPairsCard

/-- THE TIED CARD OF 'univocallaw30.FleetEdges'. -/
def fleetEdgesCard : Claim7 := { stood := { row := fleetEdgesRow, standIns := [], harness := (true, "8ce33fc88b6e58dfab6e278fb05047b386e9e1829d4ab407bcd1dff0a1b8a66e"), looks := false }, kinds := [], alts := [], laidByText := true, laidKinds := [.data], laidTests := true, laidLooks := .later }
def FleetEdgesCardSaid : Prop := Claim7.holds Tryz.pinned (.plain (OpenSpec.ofChange fleetEdgesSpec)) fleetEdgesCard

/-- THE TIED CARD OF 'univocallaw30.FleetOrder'. -/
def fleetOrderCard : Claim7 := { stood := { row := fleetOrderRow, standIns := [], harness := (true, "8ce33fc88b6e58dfab6e278fb05047b386e9e1829d4ab407bcd1dff0a1b8a66e"), looks := false }, kinds := [], alts := [], laidByText := true, laidKinds := [.data], laidTests := true, laidLooks := .later }
def FleetOrderCardSaid : Prop := Claim7.holds Tryz.pinned (.plain (OpenSpec.ofChange fleetOrderSpec)) fleetOrderCard

/-- THE TIED CARD OF 'univocallaw30.FleetErrors'. -/
def fleetErrorsCard : Claim7 := { stood := { row := fleetErrorsRow, standIns := [], harness := (true, "8ce33fc88b6e58dfab6e278fb05047b386e9e1829d4ab407bcd1dff0a1b8a66e"), looks := false }, kinds := [], alts := [], laidByText := true, laidKinds := [.data], laidTests := true, laidLooks := .later }
def FleetErrorsCardSaid : Prop := Claim7.holds Tryz.pinned (.plain (OpenSpec.ofChange fleetErrorsSpec)) fleetErrorsCard

/-- THE SECOND FORM's CARD OF 'univocallaw30.FleetMatchesReference'. -/
def fleetMatchesReferenceUptoCard : Claim7 := { stood := { row := fleetMatchesReferenceUptoRow, standIns := [], harness := (true, "8ce33fc88b6e58dfab6e278fb05047b386e9e1829d4ab407bcd1dff0a1b8a66e"), looks := false }, kinds := [], alts := [], laidByText := true, laidKinds := [.data], laidTests := true, laidLooks := .later }
def FleetMatchesReferenceUptoCardSaid : Prop := Claim7.holds Tryz.pinned (.plain (OpenSpec.upto fleetMatchesReferenceSpec)) fleetMatchesReferenceUptoCard

/-- THE SECOND FORM's CARD OF 'univocallaw30.FleetPaths'. -/
def fleetPathsUptoCard : Claim7 := { stood := { row := fleetPathsUptoRow, standIns := [], harness := (true, "8ce33fc88b6e58dfab6e278fb05047b386e9e1829d4ab407bcd1dff0a1b8a66e"), looks := false }, kinds := [], alts := [], laidByText := true, laidKinds := [.data], laidTests := true, laidLooks := .later }
def FleetPathsUptoCardSaid : Prop := Claim7.holds Tryz.pinned (.plain (OpenSpec.upto fleetPathsSpec)) fleetPathsUptoCard

/-- THE SECOND FORM's CARD OF 'univocallaw30.FleetVersions'. -/
def fleetVersionsUptoCard : Claim7 := { stood := { row := fleetVersionsUptoRow, standIns := [], harness := (true, "8ce33fc88b6e58dfab6e278fb05047b386e9e1829d4ab407bcd1dff0a1b8a66e"), looks := false }, kinds := [], alts := [], laidByText := true, laidKinds := [.data], laidTests := true, laidLooks := .later }
def FleetVersionsUptoCardSaid : Prop := Claim7.holds Tryz.pinned (.plain (OpenSpec.upto fleetVersionsSpec)) fleetVersionsUptoCard

/-- THE SECOND FORM's CARD OF 'univocallaw30.FleetPairs'. -/
def fleetPairsUptoCard : Claim7 := { stood := { row := fleetPairsUptoRow, standIns := [], harness := (true, "8ce33fc88b6e58dfab6e278fb05047b386e9e1829d4ab407bcd1dff0a1b8a66e"), looks := false }, kinds := [], alts := [], laidByText := true, laidKinds := [.data], laidTests := true, laidLooks := .later }
def FleetPairsUptoCardSaid : Prop := Claim7.holds Tryz.pinned (.plain (OpenSpec.upto fleetPairsSpec)) fleetPairsUptoCard

/-- THE SECOND FORM's CARD OF 'univocallaw30.FleetEdges'. -/
def fleetEdgesUptoCard : Claim7 := { stood := { row := fleetEdgesUptoRow, standIns := [], harness := (true, "8ce33fc88b6e58dfab6e278fb05047b386e9e1829d4ab407bcd1dff0a1b8a66e"), looks := false }, kinds := [], alts := [], laidByText := true, laidKinds := [.data], laidTests := true, laidLooks := .later }
def FleetEdgesUptoCardSaid : Prop := Claim7.holds Tryz.pinned (.plain (OpenSpec.upto fleetEdgesSpec)) fleetEdgesUptoCard

/-- THE SECOND FORM's CARD OF 'univocallaw30.FleetOrder'. -/
def fleetOrderUptoCard : Claim7 := { stood := { row := fleetOrderUptoRow, standIns := [], harness := (true, "8ce33fc88b6e58dfab6e278fb05047b386e9e1829d4ab407bcd1dff0a1b8a66e"), looks := false }, kinds := [], alts := [], laidByText := true, laidKinds := [.data], laidTests := true, laidLooks := .later }
def FleetOrderUptoCardSaid : Prop := Claim7.holds Tryz.pinned (.plain (OpenSpec.upto fleetOrderSpec)) fleetOrderUptoCard

/-- THE SECOND FORM's CARD OF 'univocallaw30.FleetErrors'. -/
def fleetErrorsUptoCard : Claim7 := { stood := { row := fleetErrorsUptoRow, standIns := [], harness := (true, "8ce33fc88b6e58dfab6e278fb05047b386e9e1829d4ab407bcd1dff0a1b8a66e"), looks := false }, kinds := [], alts := [], laidByText := true, laidKinds := [.data], laidTests := true, laidLooks := .later }
def FleetErrorsUptoCardSaid : Prop := Claim7.holds Tryz.pinned (.plain (OpenSpec.upto fleetErrorsSpec)) fleetErrorsUptoCard
end Rows
end Go.Proofs.YtkeplgdofphnkaaGreatDoor
