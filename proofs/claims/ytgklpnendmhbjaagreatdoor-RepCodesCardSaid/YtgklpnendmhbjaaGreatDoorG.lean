/- What the row of RepCodes asks of the program's text. -/
import Derived.Test.YtgklpnendmhbjaaGreatDoorF
set_option linter.unusedSimpArgs false
set_option linter.unusedVariables false
set_option linter.unusedSectionVars false
set_option linter.unnecessarySimpa false
open Go Go.Proofs Go.Proofs.YtgklpnendmhbjaaGreatDoor
set_option maxRecDepth 100000
namespace AmA
theorem gPlace : (Rows.repCodesRow.inPlace == Tryz.prog.inPlace 4) = true := by kernel_rfl
theorem gUnf : (Rows.repCodesRow.unfollowed == Tryz.prog.unfollowed 4) = true := by kernel_rfl
theorem gRec : (Rows.repCodesRow.recurses == Tryz.prog.recurses 4) = true := by kernel_rfl
theorem gNamed : (Rows.repCodesRow.named == Tryz.prog.varsNamed 4) = true := by kernel_rfl
theorem gWf : (Rows.repCodesRow.wf (OpenSpec.ofChange Rows.repCodesSpec)) = true := by kernel_rfl
theorem gTie : namedTie Tryz.prog Rows.repCodesRow.named Rows.repCodesSpec.vars = true := by kernel_rfl
theorem gClosed : joinedFacts Tryz.prog 4 Tryz.f4 (OpenSpec.ofChange Rows.repCodesSpec).bare Rows.repCodesRow = true := by
  show joinedFacts Tryz.prog 4 Tryz.f4 Rows.repCodesSpec Rows.repCodesRow = true
  unfold joinedFacts
  rw [gWf, fLaid, fMaps, gTie, gPlace, gUnf, gRec, gNamed, fPlain, fStops, fEnter, fLifted, fMake]
  kernel_rfl
end AmA
