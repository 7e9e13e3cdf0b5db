/- Closed facts of the program that every row of this seat asks for. -/
import Derived.Test.YtmohebpaonkaeaaGreatDoorRows
import Derived.ProofKit
import Derived.JoinedCond
import Derived.SevenTiedAt
namespace Go.Proofs.YtmohebpaonkaeaaGreatDoor.JF
open Go
theorem j2 : laidOutB Tryz.prog = true := by kernel_rfl
theorem j3 : mapsRowed Tryz.prog = true := by kernel_rfl
theorem j7 : (Tryz.prog.stops == []) = true := by kernel_rfl
theorem j9 : (Tryz.prog.stopKnobs == []) = true := by kernel_rfl
theorem j22 : (Rows.transducerDomainUptoRow.plainKeys == Tryz.prog.plainKeys) = true := by kernel_rfl
theorem j23b : Tryz.prog.stopsHeard = true := by kernel_rfl
theorem j24 : Tryz.prog.mayEnter = true := by kernel_rfl
theorem j24b : (Rows.transducerDomainUptoRow.lifted == Tryz.prog.liftsFinal) = true := by kernel_rfl
theorem j24c : (Tryz.prog.make == some Rows.transducerDomainUptoRow.make) = true := by kernel_rfl
theorem own : ownKnob Tryz.prog.godebug = none := by kernel_rfl
theorem wT : Rows.transducerImagesAreReachedUptoRow.wfByText (Rows.OpenSpec.upto Rows.transducerImagesAreReachedSpec) = true := by kernel_rfl
theorem mT : Tryz.pinned.checked.prog.mainIs = some (true, "d090a410eb94d21e10f9387e5385be4cfd8074c8e0ff7224092c2ba1aa2cc885".toList) := by kernel_rfl
theorem gT : false = Rows.transducerImagesAreReachedUptoRow.goesBy Tryz.pinned.checked.prog := by kernel_rfl
end Go.Proofs.YtmohebpaonkaeaaGreatDoor.JF
