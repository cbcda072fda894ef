/- Part 14 of what the law needs: KWorldReads3. -/
import Derived.Test.YtdiibbbbdhkepaaGreatDoorWr13
import Derived.Test.YtdiibbbbdhkepaaGreatDoorRows
import Derived.KernelRfl
set_option linter.unusedSectionVars false
set_option linter.unusedVariables false
set_option linter.unusedSimpArgs false
namespace Go.Proofs.YtdiibbbbdhkepaaGreatDoor.worldReads
open Go
set_option maxRecDepth 100000
theorem k10 : ((Rows.worldReadsRow.unfollowed == Tryz.prog.unfollowed 4)) = true := by kernel_rfl
theorem k11 : ((Rows.worldReadsRow.recurses == Tryz.prog.recurses 4)) = true := by kernel_rfl
end Go.Proofs.YtdiibbbbdhkepaaGreatDoor.worldReads
