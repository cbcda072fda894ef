/- Part 9 of what the law needs: Hd3. -/
import Derived.Test.YtdiibbbbdhkepaaGreatDoorWs8
import Derived.KernelRfl
set_option linter.unusedSectionVars false
set_option linter.unusedVariables false
set_option linter.unusedSimpArgs false
namespace Go.Proofs.YtdiibbbbdhkepaaGreatDoor.Hd
open Go Go.AV
set_option maxRecDepth 100000
variable [Wins Tryz.prog]
theorem p4 : forceX (exec KK 3000 (hc 4) T4 H4) = some (.normal, T5, H5, true, 0, false) := by kernel_rfl
theorem p5 : forceX (exec KK 3000 (hc 5) T5 H5) = some (.normal, T6, H6, true, 0, true) := by kernel_rfl
end Go.Proofs.YtdiibbbbdhkepaaGreatDoor.Hd
