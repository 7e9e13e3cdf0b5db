/- Closed facts of the program that every row of this seat asks for. -/
import Derived.Test.YtngdgnolkilheaaGreatDoorRows
import Derived.ProofKit
import Derived.JoinedCond
import Derived.SevenTiedAt
namespace Go.Proofs.YtngdgnolkilheaaGreatDoor.JF
open Go
theorem j2 : laidOutB Tryz.prog = true := by kernel_rfl
theorem j3 : mapsRowed Tryz.prog = true := by kernel_rfl
theorem j7 : (Tryz.prog.stops == []) = true := by kernel_rfl
theorem j9 : (Tryz.prog.stopKnobs == []) = true := by kernel_rfl
theorem j22 : (Rows.plannerBestIsSafeUptoRow.plainKeys == Tryz.prog.plainKeys) = true := by kernel_rfl
theorem j23b : Tryz.prog.stopsHeard = true := by kernel_rfl
theorem j24 : Tryz.prog.mayEnter = true := by kernel_rfl
theorem j24b : (Rows.plannerBestIsSafeUptoRow.lifted == Tryz.prog.liftsFinal) = true := by kernel_rfl
theorem j24c : (Tryz.prog.make == some Rows.plannerBestIsSafeUptoRow.make) = true := by kernel_rfl
theorem own : ownKnob Tryz.prog.godebug = none := by kernel_rfl
theorem wT : Rows.plannerReversesUptoRow.wfByText (Rows.OpenSpec.upto Rows.plannerReversesSpec) = true := by kernel_rfl
theorem mT : Tryz.pinned.checked.prog.mainIs = some (true, "4ae54c7187381ec5f615578b8da90638fa4753be436ecba8b6803ed106db0918".toList) := by kernel_rfl
theorem gT : false = Rows.plannerReversesUptoRow.goesBy Tryz.pinned.checked.prog := by kernel_rfl
end Go.Proofs.YtngdgnolkilheaaGreatDoor.JF
