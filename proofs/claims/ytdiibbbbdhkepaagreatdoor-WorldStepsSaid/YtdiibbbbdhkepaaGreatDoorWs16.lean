/- Part 16 of what the law needs: KWorldSteps4. -/
import Derived.Test.YtdiibbbbdhkepaaGreatDoorWs15
import Derived.Test.YtdiibbbbdhkepaaGreatDoorRows
import Derived.KernelRfl
set_option linter.unusedSectionVars false
set_option linter.unusedVariables false
set_option linter.unusedSimpArgs false
namespace Go.Proofs.YtdiibbbbdhkepaaGreatDoor.worldSteps
open Go
set_option maxRecDepth 100000
theorem k12 : ((Rows.worldStepsRow.named == Tryz.prog.varsNamed 3)) = true := by kernel_rfl
theorem k13 : ((Rows.worldStepsRow.maps == (Tryz.f3.params.toList ++ Rows.worldStepsSpec.plain.varTypes Tryz.prog).any (Tryz.prog.mapsRec ·))) = true := by kernel_rfl
theorem k14 : ((Rows.worldStepsRow.ifaces == (Tryz.f3.params.toList ++ Rows.worldStepsSpec.plain.varTypes Tryz.prog).any (Tryz.prog.ifacesRec ·))) = true := by kernel_rfl
theorem k15 : ((Rows.worldStepsRow.mapsOut == Tryz.prog.mapsAmong Tryz.f3.resultTypes.toList)) = true := by kernel_rfl
end Go.Proofs.YtdiibbbbdhkepaaGreatDoor.worldSteps
