/- The facts of the types that the walks name. -/
import Derived.Test.YtadkehaagkjbhaaProg
import Derived.Test.YtadkehaagkjbhaaA10
import Derived.KernelRfl
namespace Go.Proofs.Ytadkehaagkjbhaa
open Go.AV
set_option linter.unusedVariables false
set_option linter.unusedSimpArgs false
theorem Inf2 : tInfo Try.prog 2 (Value.int IntKind.i64 (0)) 1 8 := by unfold tInfo; kernel_rfl
theorem Sz2 : (Try.prog.info? 2).map (·.size) = some 1 := Inf2.size
theorem Zr2 : (Try.prog.info? 2).map (·.zero) = some (some (Value.int IntKind.i64 (0))) := by kernel_rfl
theorem ZS2 : (Try.prog.info? 2).map (fun i => (i.zero, i.size)) = some (some (Value.int IntKind.i64 (0)), 1) := by kernel_rfl
theorem Inf3 : tInfo Try.prog 3 (Value.int IntKind.i64 (0)) 1 8 := by unfold tInfo; kernel_rfl
theorem Sz3 : (Try.prog.info? 3).map (·.size) = some 1 := Inf3.size
theorem Zr3 : (Try.prog.info? 3).map (·.zero) = some (some (Value.int IntKind.i64 (0))) := by kernel_rfl
theorem ZS3 : (Try.prog.info? 3).map (fun i => (i.zero, i.size)) = some (some (Value.int IntKind.i64 (0)), 1) := by kernel_rfl
theorem Inf4 : tInfo Try.prog 4 (Value.bool false) 1 1 := by unfold tInfo; kernel_rfl
theorem Sz4 : (Try.prog.info? 4).map (·.size) = some 1 := Inf4.size
theorem Zr4 : (Try.prog.info? 4).map (·.zero) = some (some (Value.bool false)) := by kernel_rfl
theorem ZS4 : (Try.prog.info? 4).map (fun i => (i.zero, i.size)) = some (some (Value.bool false), 1) := by kernel_rfl
theorem Inf5 : tInfo Try.prog 5 (Value.int IntKind.u8 (0)) 1 1 := by unfold tInfo; kernel_rfl
theorem Sz5 : (Try.prog.info? 5).map (·.size) = some 1 := Inf5.size
theorem Zr5 : (Try.prog.info? 5).map (·.zero) = some (some (Value.int IntKind.u8 (0))) := by kernel_rfl
theorem ZS5 : (Try.prog.info? 5).map (fun i => (i.zero, i.size)) = some (some (Value.int IntKind.u8 (0)), 1) := by kernel_rfl
theorem Inf9 : tInfo Try.prog 9 (Value.string { data := { toList := [] } }) 1 16 := by unfold tInfo; kernel_rfl
theorem Sz9 : (Try.prog.info? 9).map (·.size) = some 1 := Inf9.size
theorem Zr9 : (Try.prog.info? 9).map (·.zero) = some (some (Value.string { data := { toList := [] } })) := by kernel_rfl
theorem ZS9 : (Try.prog.info? 9).map (fun i => (i.zero, i.size)) = some (some (Value.string { data := { toList := [] } }), 1) := by kernel_rfl
theorem Inf23 : tInfo Try.prog 23 (Value.slice none 0 0) 1 24 := by unfold tInfo; kernel_rfl
theorem Sz23 : (Try.prog.info? 23).map (·.size) = some 1 := Inf23.size
theorem Zr23 : (Try.prog.info? 23).map (·.zero) = some (some (Value.slice none 0 0)) := by kernel_rfl
theorem ZS23 : (Try.prog.info? 23).map (fun i => (i.zero, i.size)) = some (some (Value.slice none 0 0), 1) := by kernel_rfl
theorem Inf25 : tInfo Try.prog 25 (Value.agg { toList := [Value.string { data := { toList := [] } }, Value.slice none 0 0] }) 2 40 := by unfold tInfo; kernel_rfl
theorem Sz25 : (Try.prog.info? 25).map (·.size) = some 2 := Inf25.size
theorem Zr25 : (Try.prog.info? 25).map (·.zero) = some (some (Value.agg { toList := [Value.string { data := { toList := [] } }, Value.slice none 0 0] })) := by kernel_rfl
theorem ZS25 : (Try.prog.info? 25).map (fun i => (i.zero, i.size)) = some (some (Value.agg { toList := [Value.string { data := { toList := [] } }, Value.slice none 0 0] }), 2) := by kernel_rfl
theorem Inf26 : tInfo Try.prog 26 (Value.int IntKind.i64 (0)) 1 8 := by unfold tInfo; kernel_rfl
theorem Sz26 : (Try.prog.info? 26).map (·.size) = some 1 := Inf26.size
theorem Zr26 : (Try.prog.info? 26).map (·.zero) = some (some (Value.int IntKind.i64 (0))) := by kernel_rfl
theorem ZS26 : (Try.prog.info? 26).map (fun i => (i.zero, i.size)) = some (some (Value.int IntKind.i64 (0)), 1) := by kernel_rfl
theorem Inf32 : tInfo Try.prog 32 (Value.agg { toList := [Value.string { data := { toList := [] } }, Value.string { data := { toList := [] } }, Value.bool false] }) 3 40 := by unfold tInfo; kernel_rfl
theorem Sz32 : (Try.prog.info? 32).map (·.size) = some 3 := Inf32.size
theorem Zr32 : (Try.prog.info? 32).map (·.zero) = some (some (Value.agg { toList := [Value.string { data := { toList := [] } }, Value.string { data := { toList := [] } }, Value.bool false] })) := by kernel_rfl
theorem ZS32 : (Try.prog.info? 32).map (fun i => (i.zero, i.size)) = some (some (Value.agg { toList := [Value.string { data := { toList := [] } }, Value.string { data := { toList := [] } }, Value.bool false] }), 3) := by kernel_rfl
theorem Inf33 : tInfo Try.prog 33 (Value.int IntKind.i64 (0)) 1 8 := by unfold tInfo; kernel_rfl
theorem Sz33 : (Try.prog.info? 33).map (·.size) = some 1 := Inf33.size
theorem Zr33 : (Try.prog.info? 33).map (·.zero) = some (some (Value.int IntKind.i64 (0))) := by kernel_rfl
theorem ZS33 : (Try.prog.info? 33).map (fun i => (i.zero, i.size)) = some (some (Value.int IntKind.i64 (0)), 1) := by kernel_rfl
theorem Inf34 : tInfo Try.prog 34 (Value.slice none 0 0) 1 24 := by unfold tInfo; kernel_rfl
theorem Sz34 : (Try.prog.info? 34).map (·.size) = some 1 := Inf34.size
theorem Zr34 : (Try.prog.info? 34).map (·.zero) = some (some (Value.slice none 0 0)) := by kernel_rfl
theorem ZS34 : (Try.prog.info? 34).map (fun i => (i.zero, i.size)) = some (some (Value.slice none 0 0), 1) := by kernel_rfl
theorem Inf35 : tInfo Try.prog 35 (Value.slice none 0 0) 1 24 := by unfold tInfo; kernel_rfl
theorem Sz35 : (Try.prog.info? 35).map (·.size) = some 1 := Inf35.size
theorem Zr35 : (Try.prog.info? 35).map (·.zero) = some (some (Value.slice none 0 0)) := by kernel_rfl
theorem ZS35 : (Try.prog.info? 35).map (fun i => (i.zero, i.size)) = some (some (Value.slice none 0 0), 1) := by kernel_rfl
theorem Inf37 : tInfo Try.prog 37 (Value.agg { toList := [Value.int IntKind.i64 (0), Value.bool false, Value.int IntKind.i64 (0), Value.string { data := { toList := [] } }, Value.slice none 0 0, Value.slice none 0 0] }) 6 88 := by unfold tInfo; kernel_rfl
theorem Sz37 : (Try.prog.info? 37).map (·.size) = some 6 := Inf37.size
theorem Zr37 : (Try.prog.info? 37).map (·.zero) = some (some (Value.agg { toList := [Value.int IntKind.i64 (0), Value.bool false, Value.int IntKind.i64 (0), Value.string { data := { toList := [] } }, Value.slice none 0 0, Value.slice none 0 0] })) := by kernel_rfl
theorem ZS37 : (Try.prog.info? 37).map (fun i => (i.zero, i.size)) = some (some (Value.agg { toList := [Value.int IntKind.i64 (0), Value.bool false, Value.int IntKind.i64 (0), Value.string { data := { toList := [] } }, Value.slice none 0 0, Value.slice none 0 0] }), 6) := by kernel_rfl
theorem Inf78 : tInfo Try.prog 78 (Value.slice none 0 0) 1 24 := by unfold tInfo; kernel_rfl
theorem Sz78 : (Try.prog.info? 78).map (·.size) = some 1 := Inf78.size
theorem Zr78 : (Try.prog.info? 78).map (·.zero) = some (some (Value.slice none 0 0)) := by kernel_rfl
theorem ZS78 : (Try.prog.info? 78).map (fun i => (i.zero, i.size)) = some (some (Value.slice none 0 0), 1) := by kernel_rfl
theorem Inf86 : tInfo Try.prog 86 (Value.slice none 0 0) 1 24 := by unfold tInfo; kernel_rfl
theorem Sz86 : (Try.prog.info? 86).map (·.size) = some 1 := Inf86.size
theorem Zr86 : (Try.prog.info? 86).map (·.zero) = some (some (Value.slice none 0 0)) := by kernel_rfl
theorem ZS86 : (Try.prog.info? 86).map (fun i => (i.zero, i.size)) = some (some (Value.slice none 0 0), 1) := by kernel_rfl
theorem Inf89 : tInfo Try.prog 89 (Value.agg { toList := [Value.string { data := { toList := [] } }, Value.int IntKind.i64 (0), Value.bool false, Value.int IntKind.i64 (0), Value.string { data := { toList := [] } }, Value.slice none 0 0, Value.slice none 0 0] }) 7 104 := by unfold tInfo; kernel_rfl
theorem Sz89 : (Try.prog.info? 89).map (·.size) = some 7 := Inf89.size
theorem Zr89 : (Try.prog.info? 89).map (·.zero) = some (some (Value.agg { toList := [Value.string { data := { toList := [] } }, Value.int IntKind.i64 (0), Value.bool false, Value.int IntKind.i64 (0), Value.string { data := { toList := [] } }, Value.slice none 0 0, Value.slice none 0 0] })) := by kernel_rfl
theorem ZS89 : (Try.prog.info? 89).map (fun i => (i.zero, i.size)) = some (some (Value.agg { toList := [Value.string { data := { toList := [] } }, Value.int IntKind.i64 (0), Value.bool false, Value.int IntKind.i64 (0), Value.string { data := { toList := [] } }, Value.slice none 0 0, Value.slice none 0 0] }), 7) := by kernel_rfl
theorem Inf91 : tInfo Try.prog 91 (Value.pointer none) 1 8 := by unfold tInfo; kernel_rfl
theorem Sz91 : (Try.prog.info? 91).map (·.size) = some 1 := Inf91.size
theorem Zr91 : (Try.prog.info? 91).map (·.zero) = some (some (Value.pointer none)) := by kernel_rfl
theorem ZS91 : (Try.prog.info? 91).map (fun i => (i.zero, i.size)) = some (some (Value.pointer none), 1) := by kernel_rfl
theorem Inf144 : tInfo Try.prog 144 (Value.agg { toList := [Value.pointer none, Value.int IntKind.i64 (0)] }) 2 16 := by unfold tInfo; kernel_rfl
theorem Sz144 : (Try.prog.info? 144).map (·.size) = some 2 := Inf144.size
theorem Zr144 : (Try.prog.info? 144).map (·.zero) = some (some (Value.agg { toList := [Value.pointer none, Value.int IntKind.i64 (0)] })) := by kernel_rfl
theorem ZS144 : (Try.prog.info? 144).map (fun i => (i.zero, i.size)) = some (some (Value.agg { toList := [Value.pointer none, Value.int IntKind.i64 (0)] }), 2) := by kernel_rfl
theorem Inf150 : tInfo Try.prog 150 (Value.agg { toList := [Value.string { data := { toList := [] } }, Value.bool false] }) 2 24 := by unfold tInfo; kernel_rfl
theorem Sz150 : (Try.prog.info? 150).map (·.size) = some 2 := Inf150.size
theorem Zr150 : (Try.prog.info? 150).map (·.zero) = some (some (Value.agg { toList := [Value.string { data := { toList := [] } }, Value.bool false] })) := by kernel_rfl
theorem ZS150 : (Try.prog.info? 150).map (fun i => (i.zero, i.size)) = some (some (Value.agg { toList := [Value.string { data := { toList := [] } }, Value.bool false] }), 2) := by kernel_rfl
theorem Inf155 : tInfo Try.prog 155 (Value.slice none 0 0) 1 24 := by unfold tInfo; kernel_rfl
theorem Sz155 : (Try.prog.info? 155).map (·.size) = some 1 := Inf155.size
theorem Zr155 : (Try.prog.info? 155).map (·.zero) = some (some (Value.slice none 0 0)) := by kernel_rfl
theorem ZS155 : (Try.prog.info? 155).map (fun i => (i.zero, i.size)) = some (some (Value.slice none 0 0), 1) := by kernel_rfl
theorem mixed : Try.prog.follows .mixedOrders = true := by kernel_rfl
end Go.Proofs.Ytadkehaagkjbhaa
