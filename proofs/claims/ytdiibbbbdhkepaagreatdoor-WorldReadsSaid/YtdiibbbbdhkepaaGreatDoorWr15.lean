/- Part 15 of what the law needs: KWorldReads4. -/
import Derived.Test.YtdiibbbbdhkepaaGreatDoorWr14
import Derived.Test.YtdiibbbbdhkepaaGreatDoorRows
import Derived.KernelRfl
set_option linter.unusedSectionVars false
set_option linter.unusedVariables false
set_option linter.unusedSimpArgs false
namespace Go.Proofs.YtdiibbbbdhkepaaGreatDoor.worldReads
open Go
set_option maxRecDepth 100000
theorem k12 : ((Rows.worldReadsRow.named == Tryz.prog.varsNamed 4)) = true := by kernel_rfl
theorem k13 : ((Rows.worldReadsRow.maps == (Tryz.f4.params.toList ++ Rows.worldReadsSpec.plain.varTypes Tryz.prog).any (Tryz.prog.mapsRec ·))) = true := by kernel_rfl
theorem k14 : ((Rows.worldReadsRow.ifaces == (Tryz.f4.params.toList ++ Rows.worldReadsSpec.plain.varTypes Tryz.prog).any (Tryz.prog.ifacesRec ·))) = true := by kernel_rfl
theorem k15 : ((Rows.worldReadsRow.mapsOut == Tryz.prog.mapsAmong Tryz.f4.resultTypes.toList)) = true := by kernel_rfl
end Go.Proofs.YtdiibbbbdhkepaaGreatDoor.worldReads
