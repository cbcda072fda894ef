/- The facts of the types that the walks name. -/
import Derived.Test.YtadkehaagkjbhaaProg
import Derived.Test.YtadkehaagkjbhaaA10
import Derived.KernelRfl
namespace Go.Proofs.Ytadkehaagkjbhaa
open Go.AV
set_option linter.unusedVariables false
set_option linter.unusedSimpArgs false
theorem Inf4 : tInfo Try.prog 4 (Value.bool false) 1 1 := by unfold tInfo; kernel_rfl
theorem Sz4 : (Try.prog.info? 4).map (·.size) = some 1 := Inf4.size
theorem Zr4 : (Try.prog.info? 4).map (·.zero) = some (some (Value.bool false)) := by kernel_rfl
theorem ZS4 : (Try.prog.info? 4).map (fun i => (i.zero, i.size)) = some (some (Value.bool false), 1) := by kernel_rfl
theorem Inf5 : tInfo Try.prog 5 (Value.int IntKind.u8 (0)) 1 1 := by unfold tInfo; kernel_rfl
theorem Sz5 : (Try.prog.info? 5).map (·.size) = some 1 := Inf5.size
theorem Zr5 : (Try.prog.info? 5).map (·.zero) = some (some (Value.int IntKind.u8 (0))) := by kernel_rfl
theorem ZS5 : (Try.prog.info? 5).map (fun i => (i.zero, i.size)) = some (some (Value.int IntKind.u8 (0)), 1) := by kernel_rfl
theorem Inf9 : tInfo Try.prog 9 (Value.string { data := { toList := [] } }) 1 16 := by unfold tInfo; kernel_rfl
theorem Sz9 : (Try.prog.info? 9).map (·.size) = some 1 := Inf9.size
theorem Zr9 : (Try.prog.info? 9).map (·.zero) = some (some (Value.string { data := { toList := [] } })) := by kernel_rfl
theorem ZS9 : (Try.prog.info? 9).map (fun i => (i.zero, i.size)) = some (some (Value.string { data := { toList := [] } }), 1) := by kernel_rfl
theorem Inf23 : tInfo Try.prog 23 (Value.slice none 0 0) 1 24 := by unfold tInfo; kernel_rfl
theorem Sz23 : (Try.prog.info? 23).map (·.size) = some 1 := Inf23.size
theorem Zr23 : (Try.prog.info? 23).map (·.zero) = some (some (Value.slice none 0 0)) := by kernel_rfl
theorem ZS23 : (Try.prog.info? 23).map (fun i => (i.zero, i.size)) = some (some (Value.slice none 0 0), 1) := by kernel_rfl
theorem Inf25 : tInfo Try.prog 25 (Value.agg { toList := [Value.string { data := { toList := [] } }, Value.slice none 0 0] }) 2 40 := by unfold tInfo; kernel_rfl
theorem Sz25 : (Try.prog.info? 25).map (·.size) = some 2 := Inf25.size
theorem Zr25 : (Try.prog.info? 25).map (·.zero) = some (some (Value.agg { toList := [Value.string { data := { toList := [] } }, Value.slice none 0 0] })) := by kernel_rfl
theorem ZS25 : (Try.prog.info? 25).map (fun i => (i.zero, i.size)) = some (some (Value.agg { toList := [Value.string { data := { toList := [] } }, Value.slice none 0 0] }), 2) := by kernel_rfl
theorem Inf32 : tInfo Try.prog 32 (Value.agg { toList := [Value.string { data := { toList := [] } }, Value.string { data := { toList := [] } }, Value.bool false] }) 3 40 := by unfold tInfo; kernel_rfl
theorem Sz32 : (Try.prog.info? 32).map (·.size) = some 3 := Inf32.size
theorem Zr32 : (Try.prog.info? 32).map (·.zero) = some (some (Value.agg { toList := [Value.string { data := { toList := [] } }, Value.string { data := { toList := [] } }, Value.bool false] })) := by kernel_rfl
theorem ZS32 : (Try.prog.info? 32).map (fun i => (i.zero, i.size)) = some (some (Value.agg { toList := [Value.string { data := { toList := [] } }, Value.string { data := { toList := [] } }, Value.bool false] }), 3) := by kernel_rfl
theorem Inf150 : tInfo Try.prog 150 (Value.agg { toList := [Value.string { data := { toList := [] } }, Value.bool false] }) 2 24 := by unfold tInfo; kernel_rfl
theorem Sz150 : (Try.prog.info? 150).map (·.size) = some 2 := Inf150.size
theorem Zr150 : (Try.prog.info? 150).map (·.zero) = some (some (Value.agg { toList := [Value.string { data := { toList := [] } }, Value.bool false] })) := by kernel_rfl
theorem ZS150 : (Try.prog.info? 150).map (fun i => (i.zero, i.size)) = some (some (Value.agg { toList := [Value.string { data := { toList := [] } }, Value.bool false] }), 2) := by kernel_rfl
theorem mixed : Try.prog.follows .mixedOrders = true := by kernel_rfl
end Go.Proofs.Ytadkehaagkjbhaa
