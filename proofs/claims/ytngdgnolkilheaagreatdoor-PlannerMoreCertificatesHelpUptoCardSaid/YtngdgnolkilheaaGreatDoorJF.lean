/- Closed facts of the program that every row of this seat asks for. -/
import Derived.Test.YtngdgnolkilheaaGreatDoorRows
import Derived.ProofKit
import Derived.JoinedCond
namespace Go.Proofs.YtngdgnolkilheaaGreatDoor.JF
open Go
theorem j2 : laidOutB Tryz.prog = true := by kernel_rfl
theorem j3 : mapsRowed Tryz.prog = true := by kernel_rfl
theorem j7 : (Tryz.prog.stops == []) = true := by kernel_rfl
theorem j9 : (Tryz.prog.stopKnobs == []) = true := by kernel_rfl
theorem j22 : (Rows.plannerBestIsSafeUptoRow.plainKeys == Tryz.prog.plainKeys) = true := by kernel_rfl
theorem j23b : Tryz.prog.stopsHeard = true := by kernel_rfl
theorem j24 : Tryz.prog.mayEnter = true := by kernel_rfl
theorem j24b : (Rows.plannerBestIsSafeUptoRow.lifted == Tryz.prog.liftsFinal) = true := by kernel_rfl
theorem j24c : (Tryz.prog.make == some Rows.plannerBestIsSafeUptoRow.make) = true := by kernel_rfl
theorem own : ownKnob Tryz.prog.godebug = none := by kernel_rfl
end Go.Proofs.YtngdgnolkilheaaGreatDoor.JF
