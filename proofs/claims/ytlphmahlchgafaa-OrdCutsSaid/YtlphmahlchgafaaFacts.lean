/- The facts of the types that the walks name. -/
import Derived.Test.YtlphmahlchgafaaProg
import Derived.Test.YtlphmahlchgafaaA10
import Derived.KernelRfl
namespace Go.Proofs.Ytlphmahlchgafaa
open Go.AV
set_option linter.unusedVariables false
set_option linter.unusedSimpArgs false
theorem Inf5 : tInfo Try.prog 5 (Value.int IntKind.u8 (0)) 1 1 := by unfold tInfo; kernel_rfl
theorem Sz5 : (Try.prog.info? 5).map (·.size) = some 1 := Inf5.size
theorem Zr5 : (Try.prog.info? 5).map (·.zero) = some (some (Value.int IntKind.u8 (0))) := by kernel_rfl
theorem ZS5 : (Try.prog.info? 5).map (fun i => (i.zero, i.size)) = some (some (Value.int IntKind.u8 (0)), 1) := by kernel_rfl
theorem Inf9 : tInfo Try.prog 9 (Value.string { data := { toList := [] } }) 1 16 := by unfold tInfo; kernel_rfl
theorem Sz9 : (Try.prog.info? 9).map (·.size) = some 1 := Inf9.size
theorem Zr9 : (Try.prog.info? 9).map (·.zero) = some (some (Value.string { data := { toList := [] } })) := by kernel_rfl
theorem ZS9 : (Try.prog.info? 9).map (fun i => (i.zero, i.size)) = some (some (Value.string { data := { toList := [] } }), 1) := by kernel_rfl
theorem Inf22 : tInfo Try.prog 22 (Value.slice none 0 0) 1 24 := by unfold tInfo; kernel_rfl
theorem Sz22 : (Try.prog.info? 22).map (·.size) = some 1 := Inf22.size
theorem Zr22 : (Try.prog.info? 22).map (·.zero) = some (some (Value.slice none 0 0)) := by kernel_rfl
theorem ZS22 : (Try.prog.info? 22).map (fun i => (i.zero, i.size)) = some (some (Value.slice none 0 0), 1) := by kernel_rfl
theorem Inf57 : tInfo Try.prog 57 (Value.pointer none) 1 8 := by unfold tInfo; kernel_rfl
theorem Sz57 : (Try.prog.info? 57).map (·.size) = some 1 := Inf57.size
theorem Zr57 : (Try.prog.info? 57).map (·.zero) = some (some (Value.pointer none)) := by kernel_rfl
theorem ZS57 : (Try.prog.info? 57).map (fun i => (i.zero, i.size)) = some (some (Value.pointer none), 1) := by kernel_rfl
theorem Inf59 : tInfo Try.prog 59 (Value.agg { toList := [Value.pointer none, Value.slice none 0 0] }) 2 32 := by unfold tInfo; kernel_rfl
theorem Sz59 : (Try.prog.info? 59).map (·.size) = some 2 := Inf59.size
theorem Zr59 : (Try.prog.info? 59).map (·.zero) = some (some (Value.agg { toList := [Value.pointer none, Value.slice none 0 0] })) := by kernel_rfl
theorem ZS59 : (Try.prog.info? 59).map (fun i => (i.zero, i.size)) = some (some (Value.agg { toList := [Value.pointer none, Value.slice none 0 0] }), 2) := by kernel_rfl
theorem mixed : Try.prog.follows .mixedOrders = true := by kernel_rfl
end Go.Proofs.Ytlphmahlchgafaa
