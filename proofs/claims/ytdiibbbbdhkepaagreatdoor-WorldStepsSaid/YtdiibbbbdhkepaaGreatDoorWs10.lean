/- Part 10 of what the law needs: Hd4. -/
import Derived.Test.YtdiibbbbdhkepaaGreatDoorWs9
import Derived.KernelRfl
set_option linter.unusedSectionVars false
set_option linter.unusedVariables false
set_option linter.unusedSimpArgs false
namespace Go.Proofs.YtdiibbbbdhkepaaGreatDoor.Hd
open Go Go.AV
set_option maxRecDepth 100000
variable [Wins Tryz.prog]
theorem p6 : forceX (exec KK 3000 (hc 6) T6 H6) = some (.normal, T7, H7, true, 51, true) := by kernel_rfl
theorem p7 : forceX (exec KK 3000 (hc 7) T7 H7) = some (.normal, T8, H8, true, 1, true) := by kernel_rfl
end Go.Proofs.YtdiibbbbdhkepaaGreatDoor.Hd
