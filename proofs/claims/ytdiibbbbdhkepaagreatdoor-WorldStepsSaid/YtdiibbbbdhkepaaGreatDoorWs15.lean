/- Part 15 of what the law needs: KWorldSteps3. -/
import Derived.Test.YtdiibbbbdhkepaaGreatDoorWs14
import Derived.Test.YtdiibbbbdhkepaaGreatDoorRows
import Derived.KernelRfl
set_option linter.unusedSectionVars false
set_option linter.unusedVariables false
set_option linter.unusedSimpArgs false
namespace Go.Proofs.YtdiibbbbdhkepaaGreatDoor.worldSteps
open Go
set_option maxRecDepth 100000
theorem k10 : ((Rows.worldStepsRow.unfollowed == Tryz.prog.unfollowed 3)) = true := by kernel_rfl
theorem k11 : ((Rows.worldStepsRow.recurses == Tryz.prog.recurses 3)) = true := by kernel_rfl
end Go.Proofs.YtdiibbbbdhkepaaGreatDoor.worldSteps
