/- Part 13 of what the law needs: KWorldReads2. -/
import Derived.Test.YtdiibbbbdhkepaaGreatDoorWr12
import Derived.Test.YtdiibbbbdhkepaaGreatDoorRows
import Derived.KernelRfl
set_option linter.unusedSectionVars false
set_option linter.unusedVariables false
set_option linter.unusedSimpArgs false
namespace Go.Proofs.YtdiibbbbdhkepaaGreatDoor.worldReads
open Go
set_option maxRecDepth 100000
theorem k2 : (mapsRowed Tryz.prog) = true := by kernel_rfl
theorem k3 : (Tryz.f4.params.all (Tryz.prog.readableRec ·)) = true := by kernel_rfl
theorem k4 : (namedTie Tryz.prog Rows.worldReadsRow.named Rows.worldReadsSpec.vars) = true := by kernel_rfl
theorem k5 : ((Rows.worldReadsRow.stops == [])) = true := by kernel_rfl
theorem k6 : ((Tryz.prog.stops == [])) = true := by kernel_rfl
theorem k7 : ((Rows.worldReadsRow.knobs == [])) = true := by kernel_rfl
theorem k8 : ((Tryz.prog.stopKnobs == [])) = true := by kernel_rfl
theorem k9 : ((Rows.worldReadsRow.inPlace == Tryz.prog.inPlace 4)) = true := by kernel_rfl
end Go.Proofs.YtdiibbbbdhkepaaGreatDoor.worldReads
