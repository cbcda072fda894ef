/- Part 13 of what the law needs: KWorldSteps1. -/
import Derived.Test.YtdiibbbbdhkepaaGreatDoorWs12
import Derived.Test.YtdiibbbbdhkepaaGreatDoorRows
import Derived.KernelRfl
set_option linter.unusedSectionVars false
set_option linter.unusedVariables false
set_option linter.unusedSimpArgs false
namespace Go.Proofs.YtdiibbbbdhkepaaGreatDoor.worldSteps
open Go
set_option maxRecDepth 100000
theorem k0 : (Rows.worldStepsRow.wf (OpenSpec.ofChange Rows.worldStepsSpec)) = true := by kernel_rfl
theorem k1 : (laidOutB Tryz.prog) = true := by kernel_rfl
end Go.Proofs.YtdiibbbbdhkepaaGreatDoor.worldSteps
