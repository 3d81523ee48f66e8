/- What a row's frame asks of the program, one by one (together they want more memory than one text may have). -/
import Derived.Test.YtgklpnendmhbjaaGreatDoorCards
import Derived.JoinedOf
import Derived.KernelRfl
set_option linter.unusedSimpArgs false
set_option linter.unusedVariables false
set_option linter.unusedSectionVars false
set_option linter.unnecessarySimpa false
open Go Go.Proofs Go.Proofs.YtgklpnendmhbjaaGreatDoor
set_option maxRecDepth 100000
namespace AmA
theorem fLaid : laidOutB Tryz.prog = true := by kernel_rfl
theorem fMaps : mapsRowed Tryz.prog = true := by kernel_rfl
theorem fPlain : (Rows.repCodesRow.plainKeys == Tryz.prog.plainKeys) = true := by kernel_rfl
theorem fStops : Tryz.prog.stopsHeard = true := by kernel_rfl
theorem fEnter : Tryz.prog.mayEnter = true := by kernel_rfl
theorem fLifted : (Rows.repCodesRow.lifted == Tryz.prog.liftsFinal) = true := by kernel_rfl
theorem fMake : (Tryz.prog.make == some Rows.repCodesRow.make) = true := by kernel_rfl
end AmA
