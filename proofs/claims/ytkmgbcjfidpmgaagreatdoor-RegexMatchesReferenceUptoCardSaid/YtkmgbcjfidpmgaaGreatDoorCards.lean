/-
  DERIVED. GIVEN WITH THE SEED: THE CARDS: each row of YtkmgbcjfidpmgaaGreatDoorRows.lean that lists a variable, with what it lists TIED to the program's text (the seventh form; the later family's looks); each row that meets fmt, with fmt's text TOLD by the authors' own Lean function (tested against real Go, not proved from fmt's source: count such statements apart). THE CARD IS WHAT COUNTS. Prove the row's statement (the work); the ties are given (YtkmgbcjfidpmgaaGreatDoorTie.lean); close each card by the builder's one call (the guide's Derived/Test/ToyasCard.lean, 'card_holds'). Laid BY PROGRAM, IN A SANDBOX (cutbox-door.mjs). By AI agents, Wed Nov 11 2026. No macro, syntax, notation, axiom, sorry.
-/
import Derived.Test.YtkmgbcjfidpmgaaGreatDoorRows
import GoSem.ClaimSeven
namespace Go.Proofs.YtkmgbcjfidpmgaaGreatDoor
namespace Rows

/-- THE TIED CARD OF 'univocallaw02.RegexParseMatchesReference'. -/
def regexParseMatchesReferenceCard : Claim7 := { stood := { row := regexParseMatchesReferenceRow, standIns := [], harness := (true, "bd6f980b5f1cb5601262550d77d5206e4b135b81e0d74b5dd3de6e8e29ea178a"), looks := true }, kinds := [], alts := [], laidByText := true, laidKinds := [.data, .data, .data, .sentinel, .sentinel], laidTests := true, laidLooks := .later }
def RegexParseMatchesReferenceCardSaid : Prop := Claim7.holds Tryz.pinned (.plain (OpenSpec.ofChange regexParseMatchesReferenceSpec)) regexParseMatchesReferenceCard

/-- THE TIED CARD OF 'univocallaw02.RegexTextRoundTrip'. -/
def regexTextRoundTripCard : Claim7 := { stood := { row := regexTextRoundTripRow, standIns := [], harness := (true, "bd6f980b5f1cb5601262550d77d5206e4b135b81e0d74b5dd3de6e8e29ea178a"), looks := true }, kinds := [], alts := [], laidByText := true, laidKinds := [.data, .data, .data, .sentinel, .sentinel], laidTests := true, laidLooks := .later }
def RegexTextRoundTripCardSaid : Prop := Claim7.holds Tryz.pinned (.plain (OpenSpec.ofChange regexTextRoundTripSpec)) regexTextRoundTripCard

/-- THE TIED CARD OF 'univocallaw02.RegexTextKeepsLanguage'. -/
def regexTextKeepsLanguageCard : Claim7 := { stood := { row := regexTextKeepsLanguageRow, standIns := [], harness := (true, "bd6f980b5f1cb5601262550d77d5206e4b135b81e0d74b5dd3de6e8e29ea178a"), looks := true }, kinds := [], alts := [], laidByText := true, laidKinds := [.data, .data, .data, .sentinel, .sentinel], laidTests := true, laidLooks := .later }
def RegexTextKeepsLanguageCardSaid : Prop := Claim7.holds Tryz.pinned (.plain (OpenSpec.ofChange regexTextKeepsLanguageSpec)) regexTextKeepsLanguageCard

/-- THE TIED CARD OF 'univocallaw02.RegexBooleanOperations'. -/
def regexBooleanOperationsCard : Claim7 := { stood := { row := regexBooleanOperationsRow, standIns := [], harness := (true, "bd6f980b5f1cb5601262550d77d5206e4b135b81e0d74b5dd3de6e8e29ea178a"), looks := true }, kinds := [], alts := [], laidByText := true, laidKinds := [.data, .data, .data, .sentinel, .sentinel], laidTests := true, laidLooks := .later }
def RegexBooleanOperationsCardSaid : Prop := Claim7.holds Tryz.pinned (.plain (OpenSpec.ofChange regexBooleanOperationsSpec)) regexBooleanOperationsCard

/-- THE TIED CARD OF 'univocallaw02.RegexConcatenationSplits'. -/
def regexConcatenationSplitsCard : Claim7 := { stood := { row := regexConcatenationSplitsRow, standIns := [], harness := (true, "bd6f980b5f1cb5601262550d77d5206e4b135b81e0d74b5dd3de6e8e29ea178a"), looks := true }, kinds := [], alts := [], laidByText := true, laidKinds := [.data, .data, .data, .sentinel, .sentinel], laidTests := true, laidLooks := .later }
def RegexConcatenationSplitsCardSaid : Prop := Claim7.holds Tryz.pinned (.plain (OpenSpec.ofChange regexConcatenationSplitsSpec)) regexConcatenationSplitsCard

/-- THE TIED CARD OF 'univocallaw02.RegexRepetitionUnfolds'. -/
def regexRepetitionUnfoldsCard : Claim7 := { stood := { row := regexRepetitionUnfoldsRow, standIns := [], harness := (true, "bd6f980b5f1cb5601262550d77d5206e4b135b81e0d74b5dd3de6e8e29ea178a"), looks := true }, kinds := [], alts := [], laidByText := true, laidKinds := [.data, .data, .data, .sentinel, .sentinel], laidTests := true, laidLooks := .later }
def RegexRepetitionUnfoldsCardSaid : Prop := Claim7.holds Tryz.pinned (.plain (OpenSpec.ofChange regexRepetitionUnfoldsSpec)) regexRepetitionUnfoldsCard

/-- THE TIED CARD OF 'univocallaw02.RegexMatchesReference'. -/
def regexMatchesReferenceCard : Claim7 := { stood := { row := regexMatchesReferenceRow, standIns := [], harness := (true, "bd6f980b5f1cb5601262550d77d5206e4b135b81e0d74b5dd3de6e8e29ea178a"), looks := true }, kinds := [], alts := [], laidByText := true, laidKinds := [.data, .data, .data, .sentinel, .sentinel], laidTests := true, laidLooks := .later }
def RegexMatchesReferenceCardSaid : Prop := Claim7.holds Tryz.pinned (.plain (OpenSpec.ofChange regexMatchesReferenceSpec)) regexMatchesReferenceCard

/-- THE TIED CARD OF 'univocallaw02.RegexEmptyWord'. -/
def regexEmptyWordCard : Claim7 := { stood := { row := regexEmptyWordRow, standIns := [], harness := (true, "bd6f980b5f1cb5601262550d77d5206e4b135b81e0d74b5dd3de6e8e29ea178a"), looks := true }, kinds := [], alts := [], laidByText := true, laidKinds := [.data, .data, .data, .sentinel, .sentinel], laidTests := true, laidLooks := .later }
def RegexEmptyWordCardSaid : Prop := Claim7.holds Tryz.pinned (.plain (OpenSpec.ofChange regexEmptyWordSpec)) regexEmptyWordCard

/-- THE TIED CARD OF 'univocallaw02.RegexRejectsInvalid'. -/
def regexRejectsInvalidCard : Claim7 := { stood := { row := regexRejectsInvalidRow, standIns := [], harness := (true, "bd6f980b5f1cb5601262550d77d5206e4b135b81e0d74b5dd3de6e8e29ea178a"), looks := true }, kinds := [], alts := [], laidByText := true, laidKinds := [.data, .data, .data, .sentinel, .sentinel], laidTests := true, laidLooks := .later }
def RegexRejectsInvalidCardSaid : Prop := Claim7.holds Tryz.pinned (.plain (OpenSpec.ofChange regexRejectsInvalidSpec)) regexRejectsInvalidCard

/-- THE SECOND FORM's CARD OF 'univocallaw02.RegexParseMatchesReference'. -/
def regexParseMatchesReferenceUptoCard : Claim7 := { stood := { row := regexParseMatchesReferenceUptoRow, standIns := [], harness := (true, "bd6f980b5f1cb5601262550d77d5206e4b135b81e0d74b5dd3de6e8e29ea178a"), looks := true }, kinds := [], alts := [], laidByText := true, laidKinds := [.data, .data, .data, .sentinel, .sentinel], laidTests := true, laidLooks := .later }
def RegexParseMatchesReferenceUptoCardSaid : Prop := Claim7.holds Tryz.pinned (.plain (OpenSpec.upto regexParseMatchesReferenceSpec)) regexParseMatchesReferenceUptoCard

/-- THE SECOND FORM's CARD OF 'univocallaw02.RegexTextRoundTrip'. -/
def regexTextRoundTripUptoCard : Claim7 := { stood := { row := regexTextRoundTripUptoRow, standIns := [], harness := (true, "bd6f980b5f1cb5601262550d77d5206e4b135b81e0d74b5dd3de6e8e29ea178a"), looks := true }, kinds := [], alts := [], laidByText := true, laidKinds := [.data, .data, .data, .sentinel, .sentinel], laidTests := true, laidLooks := .later }
def RegexTextRoundTripUptoCardSaid : Prop := Claim7.holds Tryz.pinned (.plain (OpenSpec.upto regexTextRoundTripSpec)) regexTextRoundTripUptoCard

/-- THE SECOND FORM's CARD OF 'univocallaw02.RegexTextKeepsLanguage'. -/
def regexTextKeepsLanguageUptoCard : Claim7 := { stood := { row := regexTextKeepsLanguageUptoRow, standIns := [], harness := (true, "bd6f980b5f1cb5601262550d77d5206e4b135b81e0d74b5dd3de6e8e29ea178a"), looks := true }, kinds := [], alts := [], laidByText := true, laidKinds := [.data, .data, .data, .sentinel, .sentinel], laidTests := true, laidLooks := .later }
def RegexTextKeepsLanguageUptoCardSaid : Prop := Claim7.holds Tryz.pinned (.plain (OpenSpec.upto regexTextKeepsLanguageSpec)) regexTextKeepsLanguageUptoCard

/-- THE SECOND FORM's CARD OF 'univocallaw02.RegexBooleanOperations'. -/
def regexBooleanOperationsUptoCard : Claim7 := { stood := { row := regexBooleanOperationsUptoRow, standIns := [], harness := (true, "bd6f980b5f1cb5601262550d77d5206e4b135b81e0d74b5dd3de6e8e29ea178a"), looks := true }, kinds := [], alts := [], laidByText := true, laidKinds := [.data, .data, .data, .sentinel, .sentinel], laidTests := true, laidLooks := .later }
def RegexBooleanOperationsUptoCardSaid : Prop := Claim7.holds Tryz.pinned (.plain (OpenSpec.upto regexBooleanOperationsSpec)) regexBooleanOperationsUptoCard

/-- THE SECOND FORM's CARD OF 'univocallaw02.RegexConcatenationSplits'. -/
def regexConcatenationSplitsUptoCard : Claim7 := { stood := { row := regexConcatenationSplitsUptoRow, standIns := [], harness := (true, "bd6f980b5f1cb5601262550d77d5206e4b135b81e0d74b5dd3de6e8e29ea178a"), looks := true }, kinds := [], alts := [], laidByText := true, laidKinds := [.data, .data, .data, .sentinel, .sentinel], laidTests := true, laidLooks := .later }
def RegexConcatenationSplitsUptoCardSaid : Prop := Claim7.holds Tryz.pinned (.plain (OpenSpec.upto regexConcatenationSplitsSpec)) regexConcatenationSplitsUptoCard

/-- THE SECOND FORM's CARD OF 'univocallaw02.RegexRepetitionUnfolds'. -/
def regexRepetitionUnfoldsUptoCard : Claim7 := { stood := { row := regexRepetitionUnfoldsUptoRow, standIns := [], harness := (true, "bd6f980b5f1cb5601262550d77d5206e4b135b81e0d74b5dd3de6e8e29ea178a"), looks := true }, kinds := [], alts := [], laidByText := true, laidKinds := [.data, .data, .data, .sentinel, .sentinel], laidTests := true, laidLooks := .later }
def RegexRepetitionUnfoldsUptoCardSaid : Prop := Claim7.holds Tryz.pinned (.plain (OpenSpec.upto regexRepetitionUnfoldsSpec)) regexRepetitionUnfoldsUptoCard

/-- THE SECOND FORM's CARD OF 'univocallaw02.RegexMatchesReference'. -/
def regexMatchesReferenceUptoCard : Claim7 := { stood := { row := regexMatchesReferenceUptoRow, standIns := [], harness := (true, "bd6f980b5f1cb5601262550d77d5206e4b135b81e0d74b5dd3de6e8e29ea178a"), looks := true }, kinds := [], alts := [], laidByText := true, laidKinds := [.data, .data, .data, .sentinel, .sentinel], laidTests := true, laidLooks := .later }
def RegexMatchesReferenceUptoCardSaid : Prop := Claim7.holds Tryz.pinned (.plain (OpenSpec.upto regexMatchesReferenceSpec)) regexMatchesReferenceUptoCard

/-- THE SECOND FORM's CARD OF 'univocallaw02.RegexEmptyWord'. -/
def regexEmptyWordUptoCard : Claim7 := { stood := { row := regexEmptyWordUptoRow, standIns := [], harness := (true, "bd6f980b5f1cb5601262550d77d5206e4b135b81e0d74b5dd3de6e8e29ea178a"), looks := true }, kinds := [], alts := [], laidByText := true, laidKinds := [.data, .data, .data, .sentinel, .sentinel], laidTests := true, laidLooks := .later }
def RegexEmptyWordUptoCardSaid : Prop := Claim7.holds Tryz.pinned (.plain (OpenSpec.upto regexEmptyWordSpec)) regexEmptyWordUptoCard

/-- THE SECOND FORM's CARD OF 'univocallaw02.RegexRejectsInvalid'. -/
def regexRejectsInvalidUptoCard : Claim7 := { stood := { row := regexRejectsInvalidUptoRow, standIns := [], harness := (true, "bd6f980b5f1cb5601262550d77d5206e4b135b81e0d74b5dd3de6e8e29ea178a"), looks := true }, kinds := [], alts := [], laidByText := true, laidKinds := [.data, .data, .data, .sentinel, .sentinel], laidTests := true, laidLooks := .later }
def RegexRejectsInvalidUptoCardSaid : Prop := Claim7.holds Tryz.pinned (.plain (OpenSpec.upto regexRejectsInvalidSpec)) regexRejectsInvalidUptoCard
end Rows
end Go.Proofs.YtkmgbcjfidpmgaaGreatDoor
