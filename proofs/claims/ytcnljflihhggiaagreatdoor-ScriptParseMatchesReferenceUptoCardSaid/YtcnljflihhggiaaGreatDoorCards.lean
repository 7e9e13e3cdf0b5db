/-
  DERIVED. GIVEN WITH THE SEED: THE CARDS: each row of YtcnljflihhggiaaGreatDoorRows.lean that lists a variable, with what it lists TIED to the program's text (the seventh form; the later family's looks); each row that meets fmt, with fmt's text TOLD by the authors' own Lean function (tested against real Go, not proved from fmt's source: count such statements apart). THE CARD IS WHAT COUNTS. Prove the row's statement (the work); the ties are given (YtcnljflihhggiaaGreatDoorTie.lean); close each card by the builder's one call (the guide's Derived/Test/ToyasCard.lean, 'card_holds'). Laid BY PROGRAM, IN A SANDBOX (cutbox-door.mjs). By AI agents, Wed Nov 11 2026. No macro, syntax, notation, axiom, sorry.
-/
import Derived.Test.YtcnljflihhggiaaGreatDoorRows
import GoSem.ClaimSeven
namespace Go.Proofs.YtcnljflihhggiaaGreatDoor
namespace Rows

/-- THE TIED CARD OF 'univocallaw36.ScriptParseMatchesReference'. -/
def scriptParseMatchesReferenceCard : Claim7 := { stood := { row := scriptParseMatchesReferenceRow, standIns := [], harness := (true, "44b95223fccb1809c96f74e677db4742b8f15e5666a460b8aad21b4847b7a17c"), looks := true }, kinds := [], alts := [], laidByText := true, laidKinds := [.data, .data, .data], laidTests := true, laidLooks := .later }
def ScriptParseMatchesReferenceCardSaid : Prop := Claim7.holds Tryz.pinned (.plain (OpenSpec.ofChange scriptParseMatchesReferenceSpec)) scriptParseMatchesReferenceCard

/-- THE TIED CARD OF 'univocallaw36.ScriptFormatMatchesReference'. -/
def scriptFormatMatchesReferenceCard : Claim7 := { stood := { row := scriptFormatMatchesReferenceRow, standIns := [], harness := (true, "44b95223fccb1809c96f74e677db4742b8f15e5666a460b8aad21b4847b7a17c"), looks := true }, kinds := [], alts := [], laidByText := true, laidKinds := [.data, .data, .data], laidTests := true, laidLooks := .later }
def ScriptFormatMatchesReferenceCardSaid : Prop := Claim7.holds Tryz.pinned (.plain (OpenSpec.ofChange scriptFormatMatchesReferenceSpec)) scriptFormatMatchesReferenceCard

/-- THE TIED CARD OF 'univocallaw36.ScriptValidMatchesReference'. -/
def scriptValidMatchesReferenceCard : Claim7 := { stood := { row := scriptValidMatchesReferenceRow, standIns := [], harness := (true, "44b95223fccb1809c96f74e677db4742b8f15e5666a460b8aad21b4847b7a17c"), looks := true }, kinds := [], alts := [], laidByText := true, laidKinds := [.data, .data, .data], laidTests := true, laidLooks := .later }
def ScriptValidMatchesReferenceCardSaid : Prop := Claim7.holds Tryz.pinned (.plain (OpenSpec.ofChange scriptValidMatchesReferenceSpec)) scriptValidMatchesReferenceCard

/-- THE TIED CARD OF 'univocallaw36.ScriptRoundTrip'. -/
def scriptRoundTripCard : Claim7 := { stood := { row := scriptRoundTripRow, standIns := [], harness := (true, "44b95223fccb1809c96f74e677db4742b8f15e5666a460b8aad21b4847b7a17c"), looks := true }, kinds := [], alts := [], laidByText := true, laidKinds := [.data, .data, .data], laidTests := true, laidLooks := .later }
def ScriptRoundTripCardSaid : Prop := Claim7.holds Tryz.pinned (.plain (OpenSpec.ofChange scriptRoundTripSpec)) scriptRoundTripCard

/-- THE TIED CARD OF 'univocallaw36.ScriptTextsAreUnique'. -/
def scriptTextsAreUniqueCard : Claim7 := { stood := { row := scriptTextsAreUniqueRow, standIns := [], harness := (true, "44b95223fccb1809c96f74e677db4742b8f15e5666a460b8aad21b4847b7a17c"), looks := true }, kinds := [], alts := [], laidByText := true, laidKinds := [.data, .data, .data], laidTests := true, laidLooks := .later }
def ScriptTextsAreUniqueCardSaid : Prop := Claim7.holds Tryz.pinned (.plain (OpenSpec.ofChange scriptTextsAreUniqueSpec)) scriptTextsAreUniqueCard

/-- THE TIED CARD OF 'univocallaw36.ScriptPrefixes'. -/
def scriptPrefixesCard : Claim7 := { stood := { row := scriptPrefixesRow, standIns := [], harness := (true, "44b95223fccb1809c96f74e677db4742b8f15e5666a460b8aad21b4847b7a17c"), looks := true }, kinds := [], alts := [], laidByText := true, laidKinds := [.data, .data, .data], laidTests := true, laidLooks := .later }
def ScriptPrefixesCardSaid : Prop := Claim7.holds Tryz.pinned (.plain (OpenSpec.ofChange scriptPrefixesSpec)) scriptPrefixesCard

/-- THE TIED CARD OF 'univocallaw36.ScriptLinesConcatenate'. -/
def scriptLinesConcatenateCard : Claim7 := { stood := { row := scriptLinesConcatenateRow, standIns := [], harness := (true, "44b95223fccb1809c96f74e677db4742b8f15e5666a460b8aad21b4847b7a17c"), looks := true }, kinds := [], alts := [], laidByText := true, laidKinds := [.data, .data, .data], laidTests := true, laidLooks := .later }
def ScriptLinesConcatenateCardSaid : Prop := Claim7.holds Tryz.pinned (.plain (OpenSpec.ofChange scriptLinesConcatenateSpec)) scriptLinesConcatenateCard

/-- THE TIED CARD OF 'univocallaw36.ScriptFitsEventByEvent'. -/
def scriptFitsEventByEventCard : Claim7 := { stood := { row := scriptFitsEventByEventRow, standIns := [], harness := (true, "44b95223fccb1809c96f74e677db4742b8f15e5666a460b8aad21b4847b7a17c"), looks := true }, kinds := [], alts := [], laidByText := true, laidKinds := [.data, .data, .data], laidTests := true, laidLooks := .later }
def ScriptFitsEventByEventCardSaid : Prop := Claim7.holds Tryz.pinned (.plain (OpenSpec.ofChange scriptFitsEventByEventSpec)) scriptFitsEventByEventCard

/-- THE SECOND FORM's CARD OF 'univocallaw36.ScriptParseMatchesReference'. -/
def scriptParseMatchesReferenceUptoCard : Claim7 := { stood := { row := scriptParseMatchesReferenceUptoRow, standIns := [], harness := (true, "44b95223fccb1809c96f74e677db4742b8f15e5666a460b8aad21b4847b7a17c"), looks := true }, kinds := [], alts := [], laidByText := true, laidKinds := [.data, .data, .data], laidTests := true, laidLooks := .later }
def ScriptParseMatchesReferenceUptoCardSaid : Prop := Claim7.holds Tryz.pinned (.plain (OpenSpec.upto scriptParseMatchesReferenceSpec)) scriptParseMatchesReferenceUptoCard

/-- THE SECOND FORM's CARD OF 'univocallaw36.ScriptFormatMatchesReference'. -/
def scriptFormatMatchesReferenceUptoCard : Claim7 := { stood := { row := scriptFormatMatchesReferenceUptoRow, standIns := [], harness := (true, "44b95223fccb1809c96f74e677db4742b8f15e5666a460b8aad21b4847b7a17c"), looks := true }, kinds := [], alts := [], laidByText := true, laidKinds := [.data, .data, .data], laidTests := true, laidLooks := .later }
def ScriptFormatMatchesReferenceUptoCardSaid : Prop := Claim7.holds Tryz.pinned (.plain (OpenSpec.upto scriptFormatMatchesReferenceSpec)) scriptFormatMatchesReferenceUptoCard

/-- THE SECOND FORM's CARD OF 'univocallaw36.ScriptValidMatchesReference'. -/
def scriptValidMatchesReferenceUptoCard : Claim7 := { stood := { row := scriptValidMatchesReferenceUptoRow, standIns := [], harness := (true, "44b95223fccb1809c96f74e677db4742b8f15e5666a460b8aad21b4847b7a17c"), looks := true }, kinds := [], alts := [], laidByText := true, laidKinds := [.data, .data, .data], laidTests := true, laidLooks := .later }
def ScriptValidMatchesReferenceUptoCardSaid : Prop := Claim7.holds Tryz.pinned (.plain (OpenSpec.upto scriptValidMatchesReferenceSpec)) scriptValidMatchesReferenceUptoCard

/-- THE SECOND FORM's CARD OF 'univocallaw36.ScriptRoundTrip'. -/
def scriptRoundTripUptoCard : Claim7 := { stood := { row := scriptRoundTripUptoRow, standIns := [], harness := (true, "44b95223fccb1809c96f74e677db4742b8f15e5666a460b8aad21b4847b7a17c"), looks := true }, kinds := [], alts := [], laidByText := true, laidKinds := [.data, .data, .data], laidTests := true, laidLooks := .later }
def ScriptRoundTripUptoCardSaid : Prop := Claim7.holds Tryz.pinned (.plain (OpenSpec.upto scriptRoundTripSpec)) scriptRoundTripUptoCard

/-- THE SECOND FORM's CARD OF 'univocallaw36.ScriptTextsAreUnique'. -/
def scriptTextsAreUniqueUptoCard : Claim7 := { stood := { row := scriptTextsAreUniqueUptoRow, standIns := [], harness := (true, "44b95223fccb1809c96f74e677db4742b8f15e5666a460b8aad21b4847b7a17c"), looks := true }, kinds := [], alts := [], laidByText := true, laidKinds := [.data, .data, .data], laidTests := true, laidLooks := .later }
def ScriptTextsAreUniqueUptoCardSaid : Prop := Claim7.holds Tryz.pinned (.plain (OpenSpec.upto scriptTextsAreUniqueSpec)) scriptTextsAreUniqueUptoCard

/-- THE SECOND FORM's CARD OF 'univocallaw36.ScriptPrefixes'. -/
def scriptPrefixesUptoCard : Claim7 := { stood := { row := scriptPrefixesUptoRow, standIns := [], harness := (true, "44b95223fccb1809c96f74e677db4742b8f15e5666a460b8aad21b4847b7a17c"), looks := true }, kinds := [], alts := [], laidByText := true, laidKinds := [.data, .data, .data], laidTests := true, laidLooks := .later }
def ScriptPrefixesUptoCardSaid : Prop := Claim7.holds Tryz.pinned (.plain (OpenSpec.upto scriptPrefixesSpec)) scriptPrefixesUptoCard

/-- THE SECOND FORM's CARD OF 'univocallaw36.ScriptLinesConcatenate'. -/
def scriptLinesConcatenateUptoCard : Claim7 := { stood := { row := scriptLinesConcatenateUptoRow, standIns := [], harness := (true, "44b95223fccb1809c96f74e677db4742b8f15e5666a460b8aad21b4847b7a17c"), looks := true }, kinds := [], alts := [], laidByText := true, laidKinds := [.data, .data, .data], laidTests := true, laidLooks := .later }
def ScriptLinesConcatenateUptoCardSaid : Prop := Claim7.holds Tryz.pinned (.plain (OpenSpec.upto scriptLinesConcatenateSpec)) scriptLinesConcatenateUptoCard

/-- THE SECOND FORM's CARD OF 'univocallaw36.ScriptFitsEventByEvent'. -/
def scriptFitsEventByEventUptoCard : Claim7 := { stood := { row := scriptFitsEventByEventUptoRow, standIns := [], harness := (true, "44b95223fccb1809c96f74e677db4742b8f15e5666a460b8aad21b4847b7a17c"), looks := true }, kinds := [], alts := [], laidByText := true, laidKinds := [.data, .data, .data], laidTests := true, laidLooks := .later }
def ScriptFitsEventByEventUptoCardSaid : Prop := Claim7.holds Tryz.pinned (.plain (OpenSpec.upto scriptFitsEventByEventSpec)) scriptFitsEventByEventUptoCard
end Rows
end Go.Proofs.YtcnljflihhggiaaGreatDoor
