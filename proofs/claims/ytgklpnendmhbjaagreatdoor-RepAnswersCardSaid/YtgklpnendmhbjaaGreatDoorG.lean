/- What the row of RepAnswers asks of the program's text. -/
import Derived.Test.YtgklpnendmhbjaaGreatDoorF
set_option linter.unusedSimpArgs false
set_option linter.unusedVariables false
set_option linter.unusedSectionVars false
set_option linter.unnecessarySimpa false
open Go Go.Proofs Go.Proofs.YtgklpnendmhbjaaGreatDoor
set_option maxRecDepth 100000
namespace AmA
theorem gPlace : (Rows.repAnswersRow.inPlace == Tryz.prog.inPlace 7) = true := by kernel_rfl
theorem gUnf : (Rows.repAnswersRow.unfollowed == Tryz.prog.unfollowed 7) = true := by kernel_rfl
theorem gRec : (Rows.repAnswersRow.recurses == Tryz.prog.recurses 7) = true := by kernel_rfl
theorem gNamed : (Rows.repAnswersRow.named == Tryz.prog.varsNamed 7) = true := by kernel_rfl
theorem gWf : (Rows.repAnswersRow.wf (OpenSpec.ofChange Rows.repAnswersSpec)) = true := by kernel_rfl
theorem gTie : namedTie Tryz.prog Rows.repAnswersRow.named Rows.repAnswersSpec.vars = true := by kernel_rfl
theorem gClosed : joinedFacts Tryz.prog 7 Tryz.f7 (OpenSpec.ofChange Rows.repAnswersSpec).bare Rows.repAnswersRow = true := by
  show joinedFacts Tryz.prog 7 Tryz.f7 Rows.repAnswersSpec Rows.repAnswersRow = true
  unfold joinedFacts
  rw [gWf, fLaid, fMaps, gTie, gPlace, gUnf, gRec, gNamed, fPlain, fStops, fEnter, fLifted, fMake]
  kernel_rfl
end AmA
