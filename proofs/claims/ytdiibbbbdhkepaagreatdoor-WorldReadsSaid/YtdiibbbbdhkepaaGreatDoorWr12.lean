/- Part 12 of what the law needs: KWorldReads1. -/
import Derived.Test.YtdiibbbbdhkepaaGreatDoorWr11
import Derived.Test.YtdiibbbbdhkepaaGreatDoorRows
import Derived.KernelRfl
set_option linter.unusedSectionVars false
set_option linter.unusedVariables false
set_option linter.unusedSimpArgs false
namespace Go.Proofs.YtdiibbbbdhkepaaGreatDoor.worldReads
open Go
set_option maxRecDepth 100000
theorem k0 : (Rows.worldReadsRow.wf (OpenSpec.ofChange Rows.worldReadsSpec)) = true := by kernel_rfl
theorem k1 : (laidOutB Tryz.prog) = true := by kernel_rfl
end Go.Proofs.YtdiibbbbdhkepaaGreatDoor.worldReads
