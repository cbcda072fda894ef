/- Part 11 of what the law needs: Hd5. -/
import Derived.Test.YtdiibbbbdhkepaaGreatDoorWs10
import Derived.KernelRfl
set_option linter.unusedSectionVars false
set_option linter.unusedVariables false
set_option linter.unusedSimpArgs false
namespace Go.Proofs.YtdiibbbbdhkepaaGreatDoor.Hd
open Go Go.AV
set_option maxRecDepth 100000
variable [Wins Tryz.prog]
theorem p8 : forceX (exec KK 3000 (hc 8) T8 H8) = some (.normal, T9, H9, true, 62, true) := by kernel_rfl
theorem p9 : forceX (exec KK 3000 (hc 9) T9 H9) = some (.normal, T10, H10, false, 1000000000, false) := by kernel_rfl
theorem p10 : forceX (exec KK 3000 (hc 10) T10 H10) = some (.ret, T11, H11, false, 1000000000, false) := by kernel_rfl
end Go.Proofs.YtdiibbbbdhkepaaGreatDoor.Hd
