/- The facts of the types that the walks name. -/
import Derived.Test.YtjamnhofbkgblaaProg
import Derived.Test.YtjamnhofbkgblaaA10
import Derived.KernelRfl
namespace Go.Proofs.Ytjamnhofbkgblaa
open Go.AV
set_option linter.unusedVariables false
set_option linter.unusedSimpArgs false
theorem Inf2 : tInfo Try.prog 2 (Value.int IntKind.i64 (0)) 1 8 := by unfold tInfo; kernel_rfl
theorem Sz2 : (Try.prog.info? 2).map (·.size) = some 1 := Inf2.size
theorem Zr2 : (Try.prog.info? 2).map (·.zero) = some (some (Value.int IntKind.i64 (0))) := by kernel_rfl
theorem ZS2 : (Try.prog.info? 2).map (fun i => (i.zero, i.size)) = some (some (Value.int IntKind.i64 (0)), 1) := by kernel_rfl
theorem Inf3 : tInfo Try.prog 3 (Value.int IntKind.i64 (0)) 1 8 := by unfold tInfo; kernel_rfl
theorem Sz3 : (Try.prog.info? 3).map (·.size) = some 1 := Inf3.size
theorem Zr3 : (Try.prog.info? 3).map (·.zero) = some (some (Value.int IntKind.i64 (0))) := by kernel_rfl
theorem ZS3 : (Try.prog.info? 3).map (fun i => (i.zero, i.size)) = some (some (Value.int IntKind.i64 (0)), 1) := by kernel_rfl
theorem Inf4 : tInfo Try.prog 4 (Value.bool false) 1 1 := by unfold tInfo; kernel_rfl
theorem Sz4 : (Try.prog.info? 4).map (·.size) = some 1 := Inf4.size
theorem Zr4 : (Try.prog.info? 4).map (·.zero) = some (some (Value.bool false)) := by kernel_rfl
theorem ZS4 : (Try.prog.info? 4).map (fun i => (i.zero, i.size)) = some (some (Value.bool false), 1) := by kernel_rfl
theorem Inf5 : tInfo Try.prog 5 (Value.int IntKind.u8 (0)) 1 1 := by unfold tInfo; kernel_rfl
theorem Sz5 : (Try.prog.info? 5).map (·.size) = some 1 := Inf5.size
theorem Zr5 : (Try.prog.info? 5).map (·.zero) = some (some (Value.int IntKind.u8 (0))) := by kernel_rfl
theorem ZS5 : (Try.prog.info? 5).map (fun i => (i.zero, i.size)) = some (some (Value.int IntKind.u8 (0)), 1) := by kernel_rfl
theorem Inf9 : tInfo Try.prog 9 (Value.string { data := { toList := [] } }) 1 16 := by unfold tInfo; kernel_rfl
theorem Sz9 : (Try.prog.info? 9).map (·.size) = some 1 := Inf9.size
theorem Zr9 : (Try.prog.info? 9).map (·.zero) = some (some (Value.string { data := { toList := [] } })) := by kernel_rfl
theorem ZS9 : (Try.prog.info? 9).map (fun i => (i.zero, i.size)) = some (some (Value.string { data := { toList := [] } }), 1) := by kernel_rfl
theorem Inf22 : tInfo Try.prog 22 (Value.int IntKind.i64 (0)) 1 8 := by unfold tInfo; kernel_rfl
theorem Sz22 : (Try.prog.info? 22).map (·.size) = some 1 := Inf22.size
theorem Zr22 : (Try.prog.info? 22).map (·.zero) = some (some (Value.int IntKind.i64 (0))) := by kernel_rfl
theorem ZS22 : (Try.prog.info? 22).map (fun i => (i.zero, i.size)) = some (some (Value.int IntKind.i64 (0)), 1) := by kernel_rfl
theorem Inf23 : tInfo Try.prog 23 (Value.slice none 0 0) 1 24 := by unfold tInfo; kernel_rfl
theorem Sz23 : (Try.prog.info? 23).map (·.size) = some 1 := Inf23.size
theorem Zr23 : (Try.prog.info? 23).map (·.zero) = some (some (Value.slice none 0 0)) := by kernel_rfl
theorem ZS23 : (Try.prog.info? 23).map (fun i => (i.zero, i.size)) = some (some (Value.slice none 0 0), 1) := by kernel_rfl
theorem Inf24 : tInfo Try.prog 24 (Value.slice none 0 0) 1 24 := by unfold tInfo; kernel_rfl
theorem Sz24 : (Try.prog.info? 24).map (·.size) = some 1 := Inf24.size
theorem Zr24 : (Try.prog.info? 24).map (·.zero) = some (some (Value.slice none 0 0)) := by kernel_rfl
theorem ZS24 : (Try.prog.info? 24).map (fun i => (i.zero, i.size)) = some (some (Value.slice none 0 0), 1) := by kernel_rfl
theorem Inf26 : tInfo Try.prog 26 (Value.agg { toList := [Value.int IntKind.i64 (0), Value.bool false, Value.int IntKind.i64 (0), Value.string { data := { toList := [] } }, Value.slice none 0 0, Value.slice none 0 0] }) 6 88 := by unfold tInfo; kernel_rfl
theorem Sz26 : (Try.prog.info? 26).map (·.size) = some 6 := Inf26.size
theorem Zr26 : (Try.prog.info? 26).map (·.zero) = some (some (Value.agg { toList := [Value.int IntKind.i64 (0), Value.bool false, Value.int IntKind.i64 (0), Value.string { data := { toList := [] } }, Value.slice none 0 0, Value.slice none 0 0] })) := by kernel_rfl
theorem ZS26 : (Try.prog.info? 26).map (fun i => (i.zero, i.size)) = some (some (Value.agg { toList := [Value.int IntKind.i64 (0), Value.bool false, Value.int IntKind.i64 (0), Value.string { data := { toList := [] } }, Value.slice none 0 0, Value.slice none 0 0] }), 6) := by kernel_rfl
theorem Inf30 : tInfo Try.prog 30 (Value.int IntKind.i64 (0)) 1 8 := by unfold tInfo; kernel_rfl
theorem Sz30 : (Try.prog.info? 30).map (·.size) = some 1 := Inf30.size
theorem Zr30 : (Try.prog.info? 30).map (·.zero) = some (some (Value.int IntKind.i64 (0))) := by kernel_rfl
theorem ZS30 : (Try.prog.info? 30).map (fun i => (i.zero, i.size)) = some (some (Value.int IntKind.i64 (0)), 1) := by kernel_rfl
theorem Inf33 : tInfo Try.prog 33 (Value.int IntKind.i64 (0)) 1 8 := by unfold tInfo; kernel_rfl
theorem Sz33 : (Try.prog.info? 33).map (·.size) = some 1 := Inf33.size
theorem Zr33 : (Try.prog.info? 33).map (·.zero) = some (some (Value.int IntKind.i64 (0))) := by kernel_rfl
theorem ZS33 : (Try.prog.info? 33).map (fun i => (i.zero, i.size)) = some (some (Value.int IntKind.i64 (0)), 1) := by kernel_rfl
theorem Inf34 : tInfo Try.prog 34 (Value.slice none 0 0) 1 24 := by unfold tInfo; kernel_rfl
theorem Sz34 : (Try.prog.info? 34).map (·.size) = some 1 := Inf34.size
theorem Zr34 : (Try.prog.info? 34).map (·.zero) = some (some (Value.slice none 0 0)) := by kernel_rfl
theorem ZS34 : (Try.prog.info? 34).map (fun i => (i.zero, i.size)) = some (some (Value.slice none 0 0), 1) := by kernel_rfl
theorem Inf36 : tInfo Try.prog 36 (Value.agg { toList := [Value.int IntKind.i64 (0), Value.slice none 0 0, Value.int IntKind.i64 (0), Value.bool false, Value.int IntKind.i64 (0), Value.string { data := { toList := [] } }, Value.slice none 0 0, Value.slice none 0 0] }) 8 120 := by unfold tInfo; kernel_rfl
theorem Sz36 : (Try.prog.info? 36).map (·.size) = some 8 := Inf36.size
theorem Zr36 : (Try.prog.info? 36).map (·.zero) = some (some (Value.agg { toList := [Value.int IntKind.i64 (0), Value.slice none 0 0, Value.int IntKind.i64 (0), Value.bool false, Value.int IntKind.i64 (0), Value.string { data := { toList := [] } }, Value.slice none 0 0, Value.slice none 0 0] })) := by kernel_rfl
theorem ZS36 : (Try.prog.info? 36).map (fun i => (i.zero, i.size)) = some (some (Value.agg { toList := [Value.int IntKind.i64 (0), Value.slice none 0 0, Value.int IntKind.i64 (0), Value.bool false, Value.int IntKind.i64 (0), Value.string { data := { toList := [] } }, Value.slice none 0 0, Value.slice none 0 0] }), 8) := by kernel_rfl
theorem Inf48 : tInfo Try.prog 48 (Value.agg { toList := [Value.string { data := { toList := [] } }, Value.int IntKind.i64 (0), Value.bool false, Value.int IntKind.i64 (0), Value.string { data := { toList := [] } }, Value.slice none 0 0, Value.slice none 0 0] }) 7 104 := by unfold tInfo; kernel_rfl
theorem Sz48 : (Try.prog.info? 48).map (·.size) = some 7 := Inf48.size
theorem Zr48 : (Try.prog.info? 48).map (·.zero) = some (some (Value.agg { toList := [Value.string { data := { toList := [] } }, Value.int IntKind.i64 (0), Value.bool false, Value.int IntKind.i64 (0), Value.string { data := { toList := [] } }, Value.slice none 0 0, Value.slice none 0 0] })) := by kernel_rfl
theorem ZS48 : (Try.prog.info? 48).map (fun i => (i.zero, i.size)) = some (some (Value.agg { toList := [Value.string { data := { toList := [] } }, Value.int IntKind.i64 (0), Value.bool false, Value.int IntKind.i64 (0), Value.string { data := { toList := [] } }, Value.slice none 0 0, Value.slice none 0 0] }), 7) := by kernel_rfl
theorem Inf56 : tInfo Try.prog 56 (Value.pointer none) 1 8 := by unfold tInfo; kernel_rfl
theorem Sz56 : (Try.prog.info? 56).map (·.size) = some 1 := Inf56.size
theorem Zr56 : (Try.prog.info? 56).map (·.zero) = some (some (Value.pointer none)) := by kernel_rfl
theorem ZS56 : (Try.prog.info? 56).map (fun i => (i.zero, i.size)) = some (some (Value.pointer none), 1) := by kernel_rfl
theorem Inf76 : tInfo Try.prog 76 (Value.agg { toList := [Value.string { data := { toList := [] } }, Value.bool false] }) 2 24 := by unfold tInfo; kernel_rfl
theorem Sz76 : (Try.prog.info? 76).map (·.size) = some 2 := Inf76.size
theorem Zr76 : (Try.prog.info? 76).map (·.zero) = some (some (Value.agg { toList := [Value.string { data := { toList := [] } }, Value.bool false] })) := by kernel_rfl
theorem ZS76 : (Try.prog.info? 76).map (fun i => (i.zero, i.size)) = some (some (Value.agg { toList := [Value.string { data := { toList := [] } }, Value.bool false] }), 2) := by kernel_rfl
theorem Inf99 : tInfo Try.prog 99 (Value.agg { toList := [Value.pointer none, Value.int IntKind.i64 (0)] }) 2 16 := by unfold tInfo; kernel_rfl
theorem Sz99 : (Try.prog.info? 99).map (·.size) = some 2 := Inf99.size
theorem Zr99 : (Try.prog.info? 99).map (·.zero) = some (some (Value.agg { toList := [Value.pointer none, Value.int IntKind.i64 (0)] })) := by kernel_rfl
theorem ZS99 : (Try.prog.info? 99).map (fun i => (i.zero, i.size)) = some (some (Value.agg { toList := [Value.pointer none, Value.int IntKind.i64 (0)] }), 2) := by kernel_rfl
theorem mixed : Try.prog.follows .mixedOrders = true := by kernel_rfl
end Go.Proofs.Ytjamnhofbkgblaa
