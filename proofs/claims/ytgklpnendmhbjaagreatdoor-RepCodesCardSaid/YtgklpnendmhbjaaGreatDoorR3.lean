/- RepCodes, in the abstract machine: operations 13, 15, 24. -/
import Derived.Test.YtgklpnendmhbjaaGreatDoorR
set_option linter.unusedSimpArgs false
set_option linter.unusedVariables false
set_option linter.unusedSectionVars false
set_option linter.unnecessarySimpa false
open Go Am
set_option maxRecDepth 100000
namespace AmA
theorem p13 (c : Int) : ev4 lT c 13 = tP c := by kernel_rfl
theorem q13 (c : Int) : ev4 lF c 13 = chk (!okR c) (fin false c false) := by kernel_rfl
theorem p15 (c : Int) : ev4 lT c 15 = tP c := by kernel_rfl
theorem q15 (c : Int) : ev4 lF c 15 = chk (!okR c) (fin false c false) := by kernel_rfl
theorem p24 (c : Int) : ev4 lT c 24 = tP c := by kernel_rfl
theorem q24 (c : Int) : ev4 lF c 24 = chk (!okR c) (fin false c false) := by kernel_rfl
end AmA
