/- Part 7 of what the law needs: Hd1. -/
import Derived.Test.YtdiibbbbdhkepaaGreatDoorWs6
import Derived.KernelRfl
set_option linter.unusedSectionVars false
set_option linter.unusedVariables false
set_option linter.unusedSimpArgs false
namespace Go.Proofs.YtdiibbbbdhkepaaGreatDoor.Hd
open Go Go.AV
set_option maxRecDepth 100000
variable [Wins Tryz.prog]
theorem p0 : forceX (exec KK 3000 (hc 0) T0 H0) = some (.normal, T1, H1, false, 1000000000, false) := by kernel_rfl
theorem p1 : forceX (exec KK 3000 (hc 1) T1 H1) = some (.normal, T2, H2, true, 1, true) := by kernel_rfl
theorem p2 : forceX (exec KK 3000 (hc 2) T2 H2) = some (.normal, T3, H3, true, 6, true) := by kernel_rfl
end Go.Proofs.YtdiibbbbdhkepaaGreatDoor.Hd
