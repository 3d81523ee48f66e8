/- RepCodes, in the abstract machine: operations 7, 9, 11. -/
import Derived.Test.YtgklpnendmhbjaaGreatDoorR
set_option linter.unusedSimpArgs false
set_option linter.unusedVariables false
set_option linter.unusedSectionVars false
set_option linter.unnecessarySimpa false
open Go Am
set_option maxRecDepth 100000
namespace AmA
theorem p7 (c : Int) : ev4 lT c 7 = tP c := by kernel_rfl
theorem q7 (c : Int) : ev4 lF c 7 = chk (!okR c) (fin false c false) := by kernel_rfl
theorem p9 (c : Int) : ev4 lT c 9 = tP c := by kernel_rfl
theorem q9 (c : Int) : ev4 lF c 9 = chk (!okR c) (fin false c false) := by kernel_rfl
theorem p11 (c : Int) : ev4 lT c 11 = tP c := by kernel_rfl
theorem q11 (c : Int) : ev4 lF c 11 = chk (!okR c) (fin false c false) := by kernel_rfl
end AmA
