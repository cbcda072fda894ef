/- The facts of the types that the walks name. -/
import Derived.Test.YtlphmahlchgafaaProg
import Derived.Test.YtlphmahlchgafaaA10
import Derived.KernelRfl
namespace Go.Proofs.Ytlphmahlchgafaa
open Go.AV
set_option linter.unusedVariables false
set_option linter.unusedSimpArgs false
theorem Inf5 : tInfo Try.prog 5 (Value.int IntKind.u8 (0)) 1 1 := by unfold tInfo; kernel_rfl
theorem Sz5 : (Try.prog.info? 5).map (·.size) = some 1 := Inf5.size
theorem Zr5 : (Try.prog.info? 5).map (·.zero) = some (some (Value.int IntKind.u8 (0))) := by kernel_rfl
theorem ZS5 : (Try.prog.info? 5).map (fun i => (i.zero, i.size)) = some (some (Value.int IntKind.u8 (0)), 1) := by kernel_rfl
theorem Inf9 : tInfo Try.prog 9 (Value.string { data := { toList := [] } }) 1 16 := by unfold tInfo; kernel_rfl
theorem Sz9 : (Try.prog.info? 9).map (·.size) = some 1 := Inf9.size
theorem Zr9 : (Try.prog.info? 9).map (·.zero) = some (some (Value.string { data := { toList := [] } })) := by kernel_rfl
theorem ZS9 : (Try.prog.info? 9).map (fun i => (i.zero, i.size)) = some (some (Value.string { data := { toList := [] } }), 1) := by kernel_rfl
theorem mixed : Try.prog.follows .mixedOrders = true := by kernel_rfl
end Go.Proofs.Ytlphmahlchgafaa
