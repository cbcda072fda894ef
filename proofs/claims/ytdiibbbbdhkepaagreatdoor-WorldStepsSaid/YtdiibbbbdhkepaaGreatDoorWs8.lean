/- Part 8 of what the law needs: Hd2. -/
import Derived.Test.YtdiibbbbdhkepaaGreatDoorWs7
import Derived.KernelRfl
set_option linter.unusedSectionVars false
set_option linter.unusedVariables false
set_option linter.unusedSimpArgs false
namespace Go.Proofs.YtdiibbbbdhkepaaGreatDoor.Hd
open Go Go.AV
set_option maxRecDepth 100000
variable [Wins Tryz.prog]
theorem p3 : forceX (exec KK 3000 (hc 3) T3 H3) = some (.normal, T4, H4, true, 14, true) := by kernel_rfl
end Go.Proofs.YtdiibbbbdhkepaaGreatDoor.Hd
