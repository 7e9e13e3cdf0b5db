/-
  DERIVED. GIVEN WITH THE SEED: THE CARDS: each row of YtngdgnolkilheaaGreatDoorRows.lean that lists a variable, with what it lists TIED to the program's text (the seventh form; the later family's looks); each row that meets fmt, with fmt's text TOLD by the authors' own Lean function (tested against real Go, not proved from fmt's source: count such statements apart). THE CARD IS WHAT COUNTS. Prove the row's statement (the work); the ties are given (YtngdgnolkilheaaGreatDoorTie.lean); close each card by the builder's one call (the guide's Derived/Test/ToyasCard.lean, 'card_holds'). Laid BY PROGRAM, IN A SANDBOX (cutbox-door.mjs). By AI agents, Wed Nov 11 2026. No macro, syntax, notation, axiom, sorry.
-/
import Derived.Test.YtngdgnolkilheaaGreatDoorRows
import GoSem.ClaimSeven
namespace Go.Proofs.YtngdgnolkilheaaGreatDoor
namespace Rows

/-- THE TIED CARD OF 'univocallaw31.PlannerMatchesReference'. -/
def plannerMatchesReferenceCard : Claim7 := { stood := { row := plannerMatchesReferenceRow, standIns := [], harness := (true, "4ae54c7187381ec5f615578b8da90638fa4753be436ecba8b6803ed106db0918"), looks := false }, kinds := [], alts := [], laidByText := true, laidKinds := [.data], laidTests := true, laidLooks := .later }
def PlannerMatchesReferenceCardSaid : Prop := Claim7.holds Tryz.pinned (.plain (OpenSpec.ofChange plannerMatchesReferenceSpec)) plannerMatchesReferenceCard

/-- THE TIED CARD OF 'univocallaw31.PlannerErrorsMatchReference'. -/
def plannerErrorsMatchReferenceCard : Claim7 := { stood := { row := plannerErrorsMatchReferenceRow, standIns := [], harness := (true, "4ae54c7187381ec5f615578b8da90638fa4753be436ecba8b6803ed106db0918"), looks := false }, kinds := [], alts := [], laidByText := true, laidKinds := [.data], laidTests := true, laidLooks := .later }
def PlannerErrorsMatchReferenceCardSaid : Prop := Claim7.holds Tryz.pinned (.plain (OpenSpec.ofChange plannerErrorsMatchReferenceSpec)) plannerErrorsMatchReferenceCard

/-- THE TIED CARD OF 'univocallaw31.PlannerBestIsSafe'. -/
def plannerBestIsSafeCard : Claim7 := { stood := { row := plannerBestIsSafeRow, standIns := [], harness := (true, "4ae54c7187381ec5f615578b8da90638fa4753be436ecba8b6803ed106db0918"), looks := false }, kinds := [], alts := [], laidByText := true, laidKinds := [.data], laidTests := true, laidLooks := .later }
def PlannerBestIsSafeCardSaid : Prop := Claim7.holds Tryz.pinned (.plain (OpenSpec.ofChange plannerBestIsSafeSpec)) plannerBestIsSafeCard

/-- THE TIED CARD OF 'univocallaw31.PlannerNoPlanIsBetter'. -/
def plannerNoPlanIsBetterCard : Claim7 := { stood := { row := plannerNoPlanIsBetterRow, standIns := [], harness := (true, "4ae54c7187381ec5f615578b8da90638fa4753be436ecba8b6803ed106db0918"), looks := false }, kinds := [], alts := [], laidByText := true, laidKinds := [.data], laidTests := true, laidLooks := .later }
def PlannerNoPlanIsBetterCardSaid : Prop := Claim7.holds Tryz.pinned (.plain (OpenSpec.ofChange plannerNoPlanIsBetterSpec)) plannerNoPlanIsBetterCard

/-- THE TIED CARD OF 'univocallaw31.PlannerDependsOnPairs'. -/
def plannerDependsOnPairsCard : Claim7 := { stood := { row := plannerDependsOnPairsRow, standIns := [], harness := (true, "4ae54c7187381ec5f615578b8da90638fa4753be436ecba8b6803ed106db0918"), looks := false }, kinds := [], alts := [], laidByText := true, laidKinds := [.data], laidTests := true, laidLooks := .later }
def PlannerDependsOnPairsCardSaid : Prop := Claim7.holds Tryz.pinned (.plain (OpenSpec.ofChange plannerDependsOnPairsSpec)) plannerDependsOnPairsCard

/-- THE TIED CARD OF 'univocallaw31.PlannerMoreCertificatesHelp'. -/
def plannerMoreCertificatesHelpCard : Claim7 := { stood := { row := plannerMoreCertificatesHelpRow, standIns := [], harness := (true, "4ae54c7187381ec5f615578b8da90638fa4753be436ecba8b6803ed106db0918"), looks := false }, kinds := [], alts := [], laidByText := true, laidKinds := [.data], laidTests := true, laidLooks := .later }
def PlannerMoreCertificatesHelpCardSaid : Prop := Claim7.holds Tryz.pinned (.plain (OpenSpec.ofChange plannerMoreCertificatesHelpSpec)) plannerMoreCertificatesHelpCard

/-- THE TIED CARD OF 'univocallaw31.PlannerReverses'. -/
def plannerReversesCard : Claim7 := { stood := { row := plannerReversesRow, standIns := [], harness := (true, "4ae54c7187381ec5f615578b8da90638fa4753be436ecba8b6803ed106db0918"), looks := false }, kinds := [], alts := [], laidByText := true, laidKinds := [.data], laidTests := true, laidLooks := .later }
def PlannerReversesCardSaid : Prop := Claim7.holds Tryz.pinned (.plain (OpenSpec.ofChange plannerReversesSpec)) plannerReversesCard

/-- THE SECOND FORM's CARD OF 'univocallaw31.PlannerMatchesReference'. -/
def plannerMatchesReferenceUptoCard : Claim7 := { stood := { row := plannerMatchesReferenceUptoRow, standIns := [], harness := (true, "4ae54c7187381ec5f615578b8da90638fa4753be436ecba8b6803ed106db0918"), looks := false }, kinds := [], alts := [], laidByText := true, laidKinds := [.data], laidTests := true, laidLooks := .later }
def PlannerMatchesReferenceUptoCardSaid : Prop := Claim7.holds Tryz.pinned (.plain (OpenSpec.upto plannerMatchesReferenceSpec)) plannerMatchesReferenceUptoCard

/-- THE SECOND FORM's CARD OF 'univocallaw31.PlannerErrorsMatchReference'. -/
def plannerErrorsMatchReferenceUptoCard : Claim7 := { stood := { row := plannerErrorsMatchReferenceUptoRow, standIns := [], harness := (true, "4ae54c7187381ec5f615578b8da90638fa4753be436ecba8b6803ed106db0918"), looks := false }, kinds := [], alts := [], laidByText := true, laidKinds := [.data], laidTests := true, laidLooks := .later }
def PlannerErrorsMatchReferenceUptoCardSaid : Prop := Claim7.holds Tryz.pinned (.plain (OpenSpec.upto plannerErrorsMatchReferenceSpec)) plannerErrorsMatchReferenceUptoCard

/-- THE SECOND FORM's CARD OF 'univocallaw31.PlannerBestIsSafe'. -/
def plannerBestIsSafeUptoCard : Claim7 := { stood := { row := plannerBestIsSafeUptoRow, standIns := [], harness := (true, "4ae54c7187381ec5f615578b8da90638fa4753be436ecba8b6803ed106db0918"), looks := false }, kinds := [], alts := [], laidByText := true, laidKinds := [.data], laidTests := true, laidLooks := .later }
def PlannerBestIsSafeUptoCardSaid : Prop := Claim7.holds Tryz.pinned (.plain (OpenSpec.upto plannerBestIsSafeSpec)) plannerBestIsSafeUptoCard

/-- THE SECOND FORM's CARD OF 'univocallaw31.PlannerNoPlanIsBetter'. -/
def plannerNoPlanIsBetterUptoCard : Claim7 := { stood := { row := plannerNoPlanIsBetterUptoRow, standIns := [], harness := (true, "4ae54c7187381ec5f615578b8da90638fa4753be436ecba8b6803ed106db0918"), looks := false }, kinds := [], alts := [], laidByText := true, laidKinds := [.data], laidTests := true, laidLooks := .later }
def PlannerNoPlanIsBetterUptoCardSaid : Prop := Claim7.holds Tryz.pinned (.plain (OpenSpec.upto plannerNoPlanIsBetterSpec)) plannerNoPlanIsBetterUptoCard

/-- THE SECOND FORM's CARD OF 'univocallaw31.PlannerDependsOnPairs'. -/
def plannerDependsOnPairsUptoCard : Claim7 := { stood := { row := plannerDependsOnPairsUptoRow, standIns := [], harness := (true, "4ae54c7187381ec5f615578b8da90638fa4753be436ecba8b6803ed106db0918"), looks := false }, kinds := [], alts := [], laidByText := true, laidKinds := [.data], laidTests := true, laidLooks := .later }
def PlannerDependsOnPairsUptoCardSaid : Prop := Claim7.holds Tryz.pinned (.plain (OpenSpec.upto plannerDependsOnPairsSpec)) plannerDependsOnPairsUptoCard

/-- THE SECOND FORM's CARD OF 'univocallaw31.PlannerMoreCertificatesHelp'. -/
def plannerMoreCertificatesHelpUptoCard : Claim7 := { stood := { row := plannerMoreCertificatesHelpUptoRow, standIns := [], harness := (true, "4ae54c7187381ec5f615578b8da90638fa4753be436ecba8b6803ed106db0918"), looks := false }, kinds := [], alts := [], laidByText := true, laidKinds := [.data], laidTests := true, laidLooks := .later }
def PlannerMoreCertificatesHelpUptoCardSaid : Prop := Claim7.holds Tryz.pinned (.plain (OpenSpec.upto plannerMoreCertificatesHelpSpec)) plannerMoreCertificatesHelpUptoCard

/-- THE SECOND FORM's CARD OF 'univocallaw31.PlannerReverses'. -/
def plannerReversesUptoCard : Claim7 := { stood := { row := plannerReversesUptoRow, standIns := [], harness := (true, "4ae54c7187381ec5f615578b8da90638fa4753be436ecba8b6803ed106db0918"), looks := false }, kinds := [], alts := [], laidByText := true, laidKinds := [.data], laidTests := true, laidLooks := .later }
def PlannerReversesUptoCardSaid : Prop := Claim7.holds Tryz.pinned (.plain (OpenSpec.upto plannerReversesSpec)) plannerReversesUptoCard
end Rows
end Go.Proofs.YtngdgnolkilheaaGreatDoor
