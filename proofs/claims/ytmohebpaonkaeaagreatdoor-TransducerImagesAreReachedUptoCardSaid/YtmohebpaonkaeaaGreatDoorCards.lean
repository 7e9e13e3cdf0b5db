/-
  DERIVED. GIVEN WITH THE SEED: THE CARDS: each row of YtmohebpaonkaeaaGreatDoorRows.lean that lists a variable, with what it lists TIED to the program's text (the seventh form; the later family's looks); each row that meets fmt, with fmt's text TOLD by the authors' own Lean function (tested against real Go, not proved from fmt's source: count such statements apart). THE CARD IS WHAT COUNTS. Prove the row's statement (the work); the ties are given (YtmohebpaonkaeaaGreatDoorTie.lean); close each card by the builder's one call (the guide's Derived/Test/ToyasCard.lean, 'card_holds'). Laid BY PROGRAM, IN A SANDBOX (cutbox-door.mjs). By AI agents, Wed Nov 11 2026. No macro, syntax, notation, axiom, sorry.
-/
import Derived.Test.YtmohebpaonkaeaaGreatDoorRows
import GoSem.ClaimSeven
namespace Go.Proofs.YtmohebpaonkaeaaGreatDoor
namespace Rows

/-- THE TIED CARD OF 'univocallaw07.TransducerMatchesReference'. -/
def transducerMatchesReferenceCard : Claim7 := { stood := { row := transducerMatchesReferenceRow, standIns := [], harness := (true, "d090a410eb94d21e10f9387e5385be4cfd8074c8e0ff7224092c2ba1aa2cc885"), looks := false }, kinds := [], alts := [], laidByText := true, laidKinds := [.data], laidTests := true, laidLooks := .later }
def TransducerMatchesReferenceCardSaid : Prop := Claim7.holds Tryz.pinned (.plain (OpenSpec.ofChange transducerMatchesReferenceSpec)) transducerMatchesReferenceCard

/-- THE TIED CARD OF 'univocallaw07.TransducerChecksMachines'. -/
def transducerChecksMachinesCard : Claim7 := { stood := { row := transducerChecksMachinesRow, standIns := [], harness := (true, "d090a410eb94d21e10f9387e5385be4cfd8074c8e0ff7224092c2ba1aa2cc885"), looks := false }, kinds := [], alts := [], laidByText := true, laidKinds := [.data], laidTests := true, laidLooks := .later }
def TransducerChecksMachinesCardSaid : Prop := Claim7.holds Tryz.pinned (.plain (OpenSpec.ofChange transducerChecksMachinesSpec)) transducerChecksMachinesCard

/-- THE TIED CARD OF 'univocallaw07.TransducerComposeMatchesReference'. -/
def transducerComposeMatchesReferenceCard : Claim7 := { stood := { row := transducerComposeMatchesReferenceRow, standIns := [], harness := (true, "d090a410eb94d21e10f9387e5385be4cfd8074c8e0ff7224092c2ba1aa2cc885"), looks := false }, kinds := [], alts := [], laidByText := true, laidKinds := [.data], laidTests := true, laidLooks := .later }
def TransducerComposeMatchesReferenceCardSaid : Prop := Claim7.holds Tryz.pinned (.plain (OpenSpec.ofChange transducerComposeMatchesReferenceSpec)) transducerComposeMatchesReferenceCard

/-- THE TIED CARD OF 'univocallaw07.TransducerDomain'. -/
def transducerDomainCard : Claim7 := { stood := { row := transducerDomainRow, standIns := [], harness := (true, "d090a410eb94d21e10f9387e5385be4cfd8074c8e0ff7224092c2ba1aa2cc885"), looks := false }, kinds := [], alts := [], laidByText := true, laidKinds := [.data], laidTests := true, laidLooks := .later }
def TransducerDomainCardSaid : Prop := Claim7.holds Tryz.pinned (.plain (OpenSpec.ofChange transducerDomainSpec)) transducerDomainCard

/-- THE TIED CARD OF 'univocallaw07.TransducerImagesAreReached'. -/
def transducerImagesAreReachedCard : Claim7 := { stood := { row := transducerImagesAreReachedRow, standIns := [], harness := (true, "d090a410eb94d21e10f9387e5385be4cfd8074c8e0ff7224092c2ba1aa2cc885"), looks := false }, kinds := [], alts := [], laidByText := true, laidKinds := [.data], laidTests := true, laidLooks := .later }
def TransducerImagesAreReachedCardSaid : Prop := Claim7.holds Tryz.pinned (.plain (OpenSpec.ofChange transducerImagesAreReachedSpec)) transducerImagesAreReachedCard

/-- THE TIED CARD OF 'univocallaw07.TransducerComposition'. -/
def transducerCompositionCard : Claim7 := { stood := { row := transducerCompositionRow, standIns := [], harness := (true, "d090a410eb94d21e10f9387e5385be4cfd8074c8e0ff7224092c2ba1aa2cc885"), looks := false }, kinds := [], alts := [], laidByText := true, laidKinds := [.data], laidTests := true, laidLooks := .later }
def TransducerCompositionCardSaid : Prop := Claim7.holds Tryz.pinned (.plain (OpenSpec.ofChange transducerCompositionSpec)) transducerCompositionCard

/-- THE TIED CARD OF 'univocallaw07.TransducerPreimagesCompose'. -/
def transducerPreimagesComposeCard : Claim7 := { stood := { row := transducerPreimagesComposeRow, standIns := [], harness := (true, "d090a410eb94d21e10f9387e5385be4cfd8074c8e0ff7224092c2ba1aa2cc885"), looks := false }, kinds := [], alts := [], laidByText := true, laidKinds := [.data], laidTests := true, laidLooks := .later }
def TransducerPreimagesComposeCardSaid : Prop := Claim7.holds Tryz.pinned (.plain (OpenSpec.ofChange transducerPreimagesComposeSpec)) transducerPreimagesComposeCard

/-- THE TIED CARD OF 'univocallaw07.TransducerApart'. -/
def transducerApartCard : Claim7 := { stood := { row := transducerApartRow, standIns := [], harness := (true, "d090a410eb94d21e10f9387e5385be4cfd8074c8e0ff7224092c2ba1aa2cc885"), looks := false }, kinds := [], alts := [], laidByText := true, laidKinds := [.data], laidTests := true, laidLooks := .later }
def TransducerApartCardSaid : Prop := Claim7.holds Tryz.pinned (.plain (OpenSpec.ofChange transducerApartSpec)) transducerApartCard

/-- THE TIED CARD OF 'univocallaw07.TransducerPreimages'. -/
def transducerPreimagesCard : Claim7 := { stood := { row := transducerPreimagesRow, standIns := [], harness := (true, "d090a410eb94d21e10f9387e5385be4cfd8074c8e0ff7224092c2ba1aa2cc885"), looks := false }, kinds := [], alts := [], laidByText := true, laidKinds := [.data], laidTests := true, laidLooks := .later }
def TransducerPreimagesCardSaid : Prop := Claim7.holds Tryz.pinned (.plain (OpenSpec.ofChange transducerPreimagesSpec)) transducerPreimagesCard

/-- THE SECOND FORM's CARD OF 'univocallaw07.TransducerMatchesReference'. -/
def transducerMatchesReferenceUptoCard : Claim7 := { stood := { row := transducerMatchesReferenceUptoRow, standIns := [], harness := (true, "d090a410eb94d21e10f9387e5385be4cfd8074c8e0ff7224092c2ba1aa2cc885"), looks := false }, kinds := [], alts := [], laidByText := true, laidKinds := [.data], laidTests := true, laidLooks := .later }
def TransducerMatchesReferenceUptoCardSaid : Prop := Claim7.holds Tryz.pinned (.plain (OpenSpec.upto transducerMatchesReferenceSpec)) transducerMatchesReferenceUptoCard

/-- THE SECOND FORM's CARD OF 'univocallaw07.TransducerChecksMachines'. -/
def transducerChecksMachinesUptoCard : Claim7 := { stood := { row := transducerChecksMachinesUptoRow, standIns := [], harness := (true, "d090a410eb94d21e10f9387e5385be4cfd8074c8e0ff7224092c2ba1aa2cc885"), looks := false }, kinds := [], alts := [], laidByText := true, laidKinds := [.data], laidTests := true, laidLooks := .later }
def TransducerChecksMachinesUptoCardSaid : Prop := Claim7.holds Tryz.pinned (.plain (OpenSpec.upto transducerChecksMachinesSpec)) transducerChecksMachinesUptoCard

/-- THE SECOND FORM's CARD OF 'univocallaw07.TransducerComposeMatchesReference'. -/
def transducerComposeMatchesReferenceUptoCard : Claim7 := { stood := { row := transducerComposeMatchesReferenceUptoRow, standIns := [], harness := (true, "d090a410eb94d21e10f9387e5385be4cfd8074c8e0ff7224092c2ba1aa2cc885"), looks := false }, kinds := [], alts := [], laidByText := true, laidKinds := [.data], laidTests := true, laidLooks := .later }
def TransducerComposeMatchesReferenceUptoCardSaid : Prop := Claim7.holds Tryz.pinned (.plain (OpenSpec.upto transducerComposeMatchesReferenceSpec)) transducerComposeMatchesReferenceUptoCard

/-- THE SECOND FORM's CARD OF 'univocallaw07.TransducerDomain'. -/
def transducerDomainUptoCard : Claim7 := { stood := { row := transducerDomainUptoRow, standIns := [], harness := (true, "d090a410eb94d21e10f9387e5385be4cfd8074c8e0ff7224092c2ba1aa2cc885"), looks := false }, kinds := [], alts := [], laidByText := true, laidKinds := [.data], laidTests := true, laidLooks := .later }
def TransducerDomainUptoCardSaid : Prop := Claim7.holds Tryz.pinned (.plain (OpenSpec.upto transducerDomainSpec)) transducerDomainUptoCard

/-- THE SECOND FORM's CARD OF 'univocallaw07.TransducerImagesAreReached'. -/
def transducerImagesAreReachedUptoCard : Claim7 := { stood := { row := transducerImagesAreReachedUptoRow, standIns := [], harness := (true, "d090a410eb94d21e10f9387e5385be4cfd8074c8e0ff7224092c2ba1aa2cc885"), looks := false }, kinds := [], alts := [], laidByText := true, laidKinds := [.data], laidTests := true, laidLooks := .later }
def TransducerImagesAreReachedUptoCardSaid : Prop := Claim7.holds Tryz.pinned (.plain (OpenSpec.upto transducerImagesAreReachedSpec)) transducerImagesAreReachedUptoCard

/-- THE SECOND FORM's CARD OF 'univocallaw07.TransducerComposition'. -/
def transducerCompositionUptoCard : Claim7 := { stood := { row := transducerCompositionUptoRow, standIns := [], harness := (true, "d090a410eb94d21e10f9387e5385be4cfd8074c8e0ff7224092c2ba1aa2cc885"), looks := false }, kinds := [], alts := [], laidByText := true, laidKinds := [.data], laidTests := true, laidLooks := .later }
def TransducerCompositionUptoCardSaid : Prop := Claim7.holds Tryz.pinned (.plain (OpenSpec.upto transducerCompositionSpec)) transducerCompositionUptoCard

/-- THE SECOND FORM's CARD OF 'univocallaw07.TransducerPreimagesCompose'. -/
def transducerPreimagesComposeUptoCard : Claim7 := { stood := { row := transducerPreimagesComposeUptoRow, standIns := [], harness := (true, "d090a410eb94d21e10f9387e5385be4cfd8074c8e0ff7224092c2ba1aa2cc885"), looks := false }, kinds := [], alts := [], laidByText := true, laidKinds := [.data], laidTests := true, laidLooks := .later }
def TransducerPreimagesComposeUptoCardSaid : Prop := Claim7.holds Tryz.pinned (.plain (OpenSpec.upto transducerPreimagesComposeSpec)) transducerPreimagesComposeUptoCard

/-- THE SECOND FORM's CARD OF 'univocallaw07.TransducerApart'. -/
def transducerApartUptoCard : Claim7 := { stood := { row := transducerApartUptoRow, standIns := [], harness := (true, "d090a410eb94d21e10f9387e5385be4cfd8074c8e0ff7224092c2ba1aa2cc885"), looks := false }, kinds := [], alts := [], laidByText := true, laidKinds := [.data], laidTests := true, laidLooks := .later }
def TransducerApartUptoCardSaid : Prop := Claim7.holds Tryz.pinned (.plain (OpenSpec.upto transducerApartSpec)) transducerApartUptoCard

/-- THE SECOND FORM's CARD OF 'univocallaw07.TransducerPreimages'. -/
def transducerPreimagesUptoCard : Claim7 := { stood := { row := transducerPreimagesUptoRow, standIns := [], harness := (true, "d090a410eb94d21e10f9387e5385be4cfd8074c8e0ff7224092c2ba1aa2cc885"), looks := false }, kinds := [], alts := [], laidByText := true, laidKinds := [.data], laidTests := true, laidLooks := .later }
def TransducerPreimagesUptoCardSaid : Prop := Claim7.holds Tryz.pinned (.plain (OpenSpec.upto transducerPreimagesSpec)) transducerPreimagesUptoCard
end Rows
end Go.Proofs.YtmohebpaonkaeaaGreatDoor
