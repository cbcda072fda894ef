/- The facts of the types that the walks name. -/
import Derived.Test.YtlphmahlchgafaaProg
import Derived.Test.YtlphmahlchgafaaA10
import Derived.KernelRfl
namespace Go.Proofs.Ytlphmahlchgafaa
open Go.AV
set_option linter.unusedVariables false
set_option linter.unusedSimpArgs false
theorem Inf2 : tInfo Try.prog 2 (Value.int IntKind.i64 (0)) 1 8 := by unfold tInfo; kernel_rfl
theorem Sz2 : (Try.prog.info? 2).map (·.size) = some 1 := Inf2.size
theorem Zr2 : (Try.prog.info? 2).map (·.zero) = some (some (Value.int IntKind.i64 (0))) := by kernel_rfl
theorem ZS2 : (Try.prog.info? 2).map (fun i => (i.zero, i.size)) = some (some (Value.int IntKind.i64 (0)), 1) := by kernel_rfl
theorem Inf3 : tInfo Try.prog 3 (Value.int IntKind.i64 (0)) 1 8 := by unfold tInfo; kernel_rfl
theorem Sz3 : (Try.prog.info? 3).map (·.size) = some 1 := Inf3.size
theorem Zr3 : (Try.prog.info? 3).map (·.zero) = some (some (Value.int IntKind.i64 (0))) := by kernel_rfl
theorem ZS3 : (Try.prog.info? 3).map (fun i => (i.zero, i.size)) = some (some (Value.int IntKind.i64 (0)), 1) := by kernel_rfl
theorem Inf4 : tInfo Try.prog 4 (Value.bool false) 1 1 := by unfold tInfo; kernel_rfl
theorem Sz4 : (Try.prog.info? 4).map (·.size) = some 1 := Inf4.size
theorem Zr4 : (Try.prog.info? 4).map (·.zero) = some (some (Value.bool false)) := by kernel_rfl
theorem ZS4 : (Try.prog.info? 4).map (fun i => (i.zero, i.size)) = some (some (Value.bool false), 1) := by kernel_rfl
theorem Inf5 : tInfo Try.prog 5 (Value.int IntKind.u8 (0)) 1 1 := by unfold tInfo; kernel_rfl
theorem Sz5 : (Try.prog.info? 5).map (·.size) = some 1 := Inf5.size
theorem Zr5 : (Try.prog.info? 5).map (·.zero) = some (some (Value.int IntKind.u8 (0))) := by kernel_rfl
theorem ZS5 : (Try.prog.info? 5).map (fun i => (i.zero, i.size)) = some (some (Value.int IntKind.u8 (0)), 1) := by kernel_rfl
theorem Inf9 : tInfo Try.prog 9 (Value.string { data := { toList := [] } }) 1 16 := by unfold tInfo; kernel_rfl
theorem Sz9 : (Try.prog.info? 9).map (·.size) = some 1 := Inf9.size
theorem Zr9 : (Try.prog.info? 9).map (·.zero) = some (some (Value.string { data := { toList := [] } })) := by kernel_rfl
theorem ZS9 : (Try.prog.info? 9).map (fun i => (i.zero, i.size)) = some (some (Value.string { data := { toList := [] } }), 1) := by kernel_rfl
theorem Inf45 : tInfo Try.prog 45 (Value.int IntKind.i64 (0)) 1 8 := by unfold tInfo; kernel_rfl
theorem Sz45 : (Try.prog.info? 45).map (·.size) = some 1 := Inf45.size
theorem Zr45 : (Try.prog.info? 45).map (·.zero) = some (some (Value.int IntKind.i64 (0))) := by kernel_rfl
theorem ZS45 : (Try.prog.info? 45).map (fun i => (i.zero, i.size)) = some (some (Value.int IntKind.i64 (0)), 1) := by kernel_rfl
theorem Inf46 : tInfo Try.prog 46 (Value.slice none 0 0) 1 24 := by unfold tInfo; kernel_rfl
theorem Sz46 : (Try.prog.info? 46).map (·.size) = some 1 := Inf46.size
theorem Zr46 : (Try.prog.info? 46).map (·.zero) = some (some (Value.slice none 0 0)) := by kernel_rfl
theorem ZS46 : (Try.prog.info? 46).map (fun i => (i.zero, i.size)) = some (some (Value.slice none 0 0), 1) := by kernel_rfl
theorem Inf47 : tInfo Try.prog 47 (Value.slice none 0 0) 1 24 := by unfold tInfo; kernel_rfl
theorem Sz47 : (Try.prog.info? 47).map (·.size) = some 1 := Inf47.size
theorem Zr47 : (Try.prog.info? 47).map (·.zero) = some (some (Value.slice none 0 0)) := by kernel_rfl
theorem ZS47 : (Try.prog.info? 47).map (fun i => (i.zero, i.size)) = some (some (Value.slice none 0 0), 1) := by kernel_rfl
theorem Inf49 : tInfo Try.prog 49 (Value.agg { toList := [Value.int IntKind.i64 (0), Value.bool false, Value.int IntKind.i64 (0), Value.string { data := { toList := [] } }, Value.slice none 0 0, Value.slice none 0 0] }) 6 88 := by unfold tInfo; kernel_rfl
theorem Sz49 : (Try.prog.info? 49).map (·.size) = some 6 := Inf49.size
theorem Zr49 : (Try.prog.info? 49).map (·.zero) = some (some (Value.agg { toList := [Value.int IntKind.i64 (0), Value.bool false, Value.int IntKind.i64 (0), Value.string { data := { toList := [] } }, Value.slice none 0 0, Value.slice none 0 0] })) := by kernel_rfl
theorem ZS49 : (Try.prog.info? 49).map (fun i => (i.zero, i.size)) = some (some (Value.agg { toList := [Value.int IntKind.i64 (0), Value.bool false, Value.int IntKind.i64 (0), Value.string { data := { toList := [] } }, Value.slice none 0 0, Value.slice none 0 0] }), 6) := by kernel_rfl
theorem Inf65 : tInfo Try.prog 65 (Value.agg { toList := [Value.string { data := { toList := [] } }, Value.int IntKind.i64 (0), Value.bool false, Value.int IntKind.i64 (0), Value.string { data := { toList := [] } }, Value.slice none 0 0, Value.slice none 0 0] }) 7 104 := by unfold tInfo; kernel_rfl
theorem Sz65 : (Try.prog.info? 65).map (·.size) = some 7 := Inf65.size
theorem Zr65 : (Try.prog.info? 65).map (·.zero) = some (some (Value.agg { toList := [Value.string { data := { toList := [] } }, Value.int IntKind.i64 (0), Value.bool false, Value.int IntKind.i64 (0), Value.string { data := { toList := [] } }, Value.slice none 0 0, Value.slice none 0 0] })) := by kernel_rfl
theorem ZS65 : (Try.prog.info? 65).map (fun i => (i.zero, i.size)) = some (some (Value.agg { toList := [Value.string { data := { toList := [] } }, Value.int IntKind.i64 (0), Value.bool false, Value.int IntKind.i64 (0), Value.string { data := { toList := [] } }, Value.slice none 0 0, Value.slice none 0 0] }), 7) := by kernel_rfl
theorem mixed : Try.prog.follows .mixedOrders = true := by kernel_rfl
end Go.Proofs.Ytlphmahlchgafaa
