/- The facts of the types that the walks name. -/
import Derived.Test.YtadkehaagkjbhaaProg
import Derived.Test.YtadkehaagkjbhaaA10
import Derived.KernelRfl
namespace Go.Proofs.Ytadkehaagkjbhaa
open Go.AV
set_option linter.unusedVariables false
set_option linter.unusedSimpArgs false
theorem Inf0 : tInfo Try.prog 0 (Value.tuple { toList := [] }) 1 0 := by unfold tInfo; kernel_rfl
theorem Sz0 : (Try.prog.info? 0).map (·.size) = some 1 := Inf0.size
theorem Zr0 : (Try.prog.info? 0).map (·.zero) = some (some (Value.tuple { toList := [] })) := by kernel_rfl
theorem ZS0 : (Try.prog.info? 0).map (fun i => (i.zero, i.size)) = some (some (Value.tuple { toList := [] }), 1) := by kernel_rfl
theorem Inf1 : tInfo Try.prog 1 Value.nilFunc 1 8 := by unfold tInfo; kernel_rfl
theorem Sz1 : (Try.prog.info? 1).map (·.size) = some 1 := Inf1.size
theorem Zr1 : (Try.prog.info? 1).map (·.zero) = some (some Value.nilFunc) := by kernel_rfl
theorem ZS1 : (Try.prog.info? 1).map (fun i => (i.zero, i.size)) = some (some Value.nilFunc, 1) := by kernel_rfl
theorem Inf2 : tInfo Try.prog 2 (Value.int IntKind.i64 (0)) 1 8 := by unfold tInfo; kernel_rfl
theorem Sz2 : (Try.prog.info? 2).map (·.size) = some 1 := Inf2.size
theorem Zr2 : (Try.prog.info? 2).map (·.zero) = some (some (Value.int IntKind.i64 (0))) := by kernel_rfl
theorem ZS2 : (Try.prog.info? 2).map (fun i => (i.zero, i.size)) = some (some (Value.int IntKind.i64 (0)), 1) := by kernel_rfl
theorem Inf3 : tInfo Try.prog 3 (Value.int IntKind.i64 (0)) 1 8 := by unfold tInfo; kernel_rfl
theorem Sz3 : (Try.prog.info? 3).map (·.size) = some 1 := Inf3.size
theorem Zr3 : (Try.prog.info? 3).map (·.zero) = some (some (Value.int IntKind.i64 (0))) := by kernel_rfl
theorem ZS3 : (Try.prog.info? 3).map (fun i => (i.zero, i.size)) = some (some (Value.int IntKind.i64 (0)), 1) := by kernel_rfl
theorem Inf4 : tInfo Try.prog 4 (Value.bool false) 1 1 := by unfold tInfo; kernel_rfl
theorem Sz4 : (Try.prog.info? 4).map (·.size) = some 1 := Inf4.size
theorem Zr4 : (Try.prog.info? 4).map (·.zero) = some (some (Value.bool false)) := by kernel_rfl
theorem ZS4 : (Try.prog.info? 4).map (fun i => (i.zero, i.size)) = some (some (Value.bool false), 1) := by kernel_rfl
theorem Inf5 : tInfo Try.prog 5 (Value.int IntKind.u8 (0)) 1 1 := by unfold tInfo; kernel_rfl
theorem Sz5 : (Try.prog.info? 5).map (·.size) = some 1 := Inf5.size
theorem Zr5 : (Try.prog.info? 5).map (·.zero) = some (some (Value.int IntKind.u8 (0))) := by kernel_rfl
theorem ZS5 : (Try.prog.info? 5).map (fun i => (i.zero, i.size)) = some (some (Value.int IntKind.u8 (0)), 1) := by kernel_rfl
theorem Inf6 : tInfo Try.prog 6 (Value.int IntKind.u8 (0)) 1 1 := by unfold tInfo; kernel_rfl
theorem Sz6 : (Try.prog.info? 6).map (·.size) = some 1 := Inf6.size
theorem Zr6 : (Try.prog.info? 6).map (·.zero) = some (some (Value.int IntKind.u8 (0))) := by kernel_rfl
theorem ZS6 : (Try.prog.info? 6).map (fun i => (i.zero, i.size)) = some (some (Value.int IntKind.u8 (0)), 1) := by kernel_rfl
theorem Inf7 : tInfo Try.prog 7 (Value.agg { toList := [Value.int IntKind.i64 (0), Value.int IntKind.i64 (0), Value.bool false, Value.int IntKind.u8 (0)] }) 4 24 := by unfold tInfo; kernel_rfl
theorem Sz7 : (Try.prog.info? 7).map (·.size) = some 4 := Inf7.size
theorem Zr7 : (Try.prog.info? 7).map (·.zero) = some (some (Value.agg { toList := [Value.int IntKind.i64 (0), Value.int IntKind.i64 (0), Value.bool false, Value.int IntKind.u8 (0)] })) := by kernel_rfl
theorem ZS7 : (Try.prog.info? 7).map (fun i => (i.zero, i.size)) = some (some (Value.agg { toList := [Value.int IntKind.i64 (0), Value.int IntKind.i64 (0), Value.bool false, Value.int IntKind.u8 (0)] }), 4) := by kernel_rfl
theorem Inf8 : tInfo Try.prog 8 (Value.agg { toList := [Value.int IntKind.i64 (0), Value.int IntKind.i64 (0), Value.bool false, Value.int IntKind.u8 (0)] }) 4 24 := by unfold tInfo; kernel_rfl
theorem Sz8 : (Try.prog.info? 8).map (·.size) = some 4 := Inf8.size
theorem Zr8 : (Try.prog.info? 8).map (·.zero) = some (some (Value.agg { toList := [Value.int IntKind.i64 (0), Value.int IntKind.i64 (0), Value.bool false, Value.int IntKind.u8 (0)] })) := by kernel_rfl
theorem ZS8 : (Try.prog.info? 8).map (fun i => (i.zero, i.size)) = some (some (Value.agg { toList := [Value.int IntKind.i64 (0), Value.int IntKind.i64 (0), Value.bool false, Value.int IntKind.u8 (0)] }), 4) := by kernel_rfl
theorem Inf9 : tInfo Try.prog 9 (Value.string { data := { toList := [] } }) 1 16 := by unfold tInfo; kernel_rfl
theorem Sz9 : (Try.prog.info? 9).map (·.size) = some 1 := Inf9.size
theorem Zr9 : (Try.prog.info? 9).map (·.zero) = some (some (Value.string { data := { toList := [] } })) := by kernel_rfl
theorem ZS9 : (Try.prog.info? 9).map (fun i => (i.zero, i.size)) = some (some (Value.string { data := { toList := [] } }), 1) := by kernel_rfl
theorem Inf10 : tInfo Try.prog 10 (Value.string { data := { toList := [] } }) 1 16 := by unfold tInfo; kernel_rfl
theorem Sz10 : (Try.prog.info? 10).map (·.size) = some 1 := Inf10.size
theorem Zr10 : (Try.prog.info? 10).map (·.zero) = some (some (Value.string { data := { toList := [] } })) := by kernel_rfl
theorem ZS10 : (Try.prog.info? 10).map (fun i => (i.zero, i.size)) = some (some (Value.string { data := { toList := [] } }), 1) := by kernel_rfl
theorem Inf11 : tInfo Try.prog 11 (Value.string { data := { toList := [] } }) 1 16 := by unfold tInfo; kernel_rfl
theorem Sz11 : (Try.prog.info? 11).map (·.size) = some 1 := Inf11.size
theorem Zr11 : (Try.prog.info? 11).map (·.zero) = some (some (Value.string { data := { toList := [] } })) := by kernel_rfl
theorem ZS11 : (Try.prog.info? 11).map (fun i => (i.zero, i.size)) = some (some (Value.string { data := { toList := [] } }), 1) := by kernel_rfl
theorem Inf12 : tInfo Try.prog 12 (Value.int IntKind.u64 (0)) 1 8 := by unfold tInfo; kernel_rfl
theorem Sz12 : (Try.prog.info? 12).map (·.size) = some 1 := Inf12.size
theorem Zr12 : (Try.prog.info? 12).map (·.zero) = some (some (Value.int IntKind.u64 (0))) := by kernel_rfl
theorem ZS12 : (Try.prog.info? 12).map (fun i => (i.zero, i.size)) = some (some (Value.int IntKind.u64 (0)), 1) := by kernel_rfl
theorem Inf13 : tInfo Try.prog 13 (Value.agg { toList := [Value.string { data := { toList := [] } }, Value.int IntKind.u64 (0)] }) 2 24 := by unfold tInfo; kernel_rfl
theorem Sz13 : (Try.prog.info? 13).map (·.size) = some 2 := Inf13.size
theorem Zr13 : (Try.prog.info? 13).map (·.zero) = some (some (Value.agg { toList := [Value.string { data := { toList := [] } }, Value.int IntKind.u64 (0)] })) := by kernel_rfl
theorem ZS13 : (Try.prog.info? 13).map (fun i => (i.zero, i.size)) = some (some (Value.agg { toList := [Value.string { data := { toList := [] } }, Value.int IntKind.u64 (0)] }), 2) := by kernel_rfl
theorem Inf14 : tInfo Try.prog 14 (Value.agg { toList := [Value.string { data := { toList := [] } }, Value.int IntKind.u64 (0)] }) 2 24 := by unfold tInfo; kernel_rfl
theorem Sz14 : (Try.prog.info? 14).map (·.size) = some 2 := Inf14.size
theorem Zr14 : (Try.prog.info? 14).map (·.zero) = some (some (Value.agg { toList := [Value.string { data := { toList := [] } }, Value.int IntKind.u64 (0)] })) := by kernel_rfl
theorem ZS14 : (Try.prog.info? 14).map (fun i => (i.zero, i.size)) = some (some (Value.agg { toList := [Value.string { data := { toList := [] } }, Value.int IntKind.u64 (0)] }), 2) := by kernel_rfl
theorem Inf15 : tInfo Try.prog 15 (Value.pointer none) 1 8 := by unfold tInfo; kernel_rfl
theorem Sz15 : (Try.prog.info? 15).map (·.size) = some 1 := Inf15.size
theorem Zr15 : (Try.prog.info? 15).map (·.zero) = some (some (Value.pointer none)) := by kernel_rfl
theorem ZS15 : (Try.prog.info? 15).map (fun i => (i.zero, i.size)) = some (some (Value.pointer none), 1) := by kernel_rfl
theorem Inf16 : tInfo Try.prog 16 (Value.pointer none) 1 8 := by unfold tInfo; kernel_rfl
theorem Sz16 : (Try.prog.info? 16).map (·.size) = some 1 := Inf16.size
theorem Zr16 : (Try.prog.info? 16).map (·.zero) = some (some (Value.pointer none)) := by kernel_rfl
theorem ZS16 : (Try.prog.info? 16).map (fun i => (i.zero, i.size)) = some (some (Value.pointer none), 1) := by kernel_rfl
theorem Inf17 : tInfo Try.prog 17 (Value.pointer none) 1 8 := by unfold tInfo; kernel_rfl
theorem Sz17 : (Try.prog.info? 17).map (·.size) = some 1 := Inf17.size
theorem Zr17 : (Try.prog.info? 17).map (·.zero) = some (some (Value.pointer none)) := by kernel_rfl
theorem ZS17 : (Try.prog.info? 17).map (fun i => (i.zero, i.size)) = some (some (Value.pointer none), 1) := by kernel_rfl
theorem Inf18 : tInfo Try.prog 18 (Value.agg { toList := [Value.pointer none] }) 1 8 := by unfold tInfo; kernel_rfl
theorem Sz18 : (Try.prog.info? 18).map (·.size) = some 1 := Inf18.size
theorem Zr18 : (Try.prog.info? 18).map (·.zero) = some (some (Value.agg { toList := [Value.pointer none] })) := by kernel_rfl
theorem ZS18 : (Try.prog.info? 18).map (fun i => (i.zero, i.size)) = some (some (Value.agg { toList := [Value.pointer none] }), 1) := by kernel_rfl
theorem Inf19 : tInfo Try.prog 19 (Value.agg { toList := [Value.pointer none] }) 1 8 := by unfold tInfo; kernel_rfl
theorem Sz19 : (Try.prog.info? 19).map (·.size) = some 1 := Inf19.size
theorem Zr19 : (Try.prog.info? 19).map (·.zero) = some (some (Value.agg { toList := [Value.pointer none] })) := by kernel_rfl
theorem ZS19 : (Try.prog.info? 19).map (fun i => (i.zero, i.size)) = some (some (Value.agg { toList := [Value.pointer none] }), 1) := by kernel_rfl
theorem Inf20 : tInfo Try.prog 20 Value.nilIface 1 16 := by unfold tInfo; kernel_rfl
theorem Sz20 : (Try.prog.info? 20).map (·.size) = some 1 := Inf20.size
theorem Zr20 : (Try.prog.info? 20).map (·.zero) = some (some Value.nilIface) := by kernel_rfl
theorem ZS20 : (Try.prog.info? 20).map (fun i => (i.zero, i.size)) = some (some Value.nilIface, 1) := by kernel_rfl
theorem Inf21 : tInfo Try.prog 21 (Value.int IntKind.i32 (0)) 1 4 := by unfold tInfo; kernel_rfl
theorem Sz21 : (Try.prog.info? 21).map (·.size) = some 1 := Inf21.size
theorem Zr21 : (Try.prog.info? 21).map (·.zero) = some (some (Value.int IntKind.i32 (0))) := by kernel_rfl
theorem ZS21 : (Try.prog.info? 21).map (fun i => (i.zero, i.size)) = some (some (Value.int IntKind.i32 (0)), 1) := by kernel_rfl
theorem Inf22 : tInfo Try.prog 22 Value.nilFunc 1 8 := by unfold tInfo; kernel_rfl
theorem Sz22 : (Try.prog.info? 22).map (·.size) = some 1 := Inf22.size
theorem Zr22 : (Try.prog.info? 22).map (·.zero) = some (some Value.nilFunc) := by kernel_rfl
theorem ZS22 : (Try.prog.info? 22).map (fun i => (i.zero, i.size)) = some (some Value.nilFunc, 1) := by kernel_rfl
theorem Inf23 : tInfo Try.prog 23 (Value.slice none 0 0) 1 24 := by unfold tInfo; kernel_rfl
theorem Sz23 : (Try.prog.info? 23).map (·.size) = some 1 := Inf23.size
theorem Zr23 : (Try.prog.info? 23).map (·.zero) = some (some (Value.slice none 0 0)) := by kernel_rfl
theorem ZS23 : (Try.prog.info? 23).map (fun i => (i.zero, i.size)) = some (some (Value.slice none 0 0), 1) := by kernel_rfl
theorem Inf24 : tInfo Try.prog 24 (Value.agg { toList := [Value.string { data := { toList := [] } }, Value.slice none 0 0] }) 2 40 := by unfold tInfo; kernel_rfl
theorem Sz24 : (Try.prog.info? 24).map (·.size) = some 2 := Inf24.size
theorem Zr24 : (Try.prog.info? 24).map (·.zero) = some (some (Value.agg { toList := [Value.string { data := { toList := [] } }, Value.slice none 0 0] })) := by kernel_rfl
theorem ZS24 : (Try.prog.info? 24).map (fun i => (i.zero, i.size)) = some (some (Value.agg { toList := [Value.string { data := { toList := [] } }, Value.slice none 0 0] }), 2) := by kernel_rfl
theorem Inf25 : tInfo Try.prog 25 (Value.agg { toList := [Value.string { data := { toList := [] } }, Value.slice none 0 0] }) 2 40 := by unfold tInfo; kernel_rfl
theorem Sz25 : (Try.prog.info? 25).map (·.size) = some 2 := Inf25.size
theorem Zr25 : (Try.prog.info? 25).map (·.zero) = some (some (Value.agg { toList := [Value.string { data := { toList := [] } }, Value.slice none 0 0] })) := by kernel_rfl
theorem ZS25 : (Try.prog.info? 25).map (fun i => (i.zero, i.size)) = some (some (Value.agg { toList := [Value.string { data := { toList := [] } }, Value.slice none 0 0] }), 2) := by kernel_rfl
theorem Inf26 : tInfo Try.prog 26 (Value.int IntKind.i64 (0)) 1 8 := by unfold tInfo; kernel_rfl
theorem Sz26 : (Try.prog.info? 26).map (·.size) = some 1 := Inf26.size
theorem Zr26 : (Try.prog.info? 26).map (·.zero) = some (some (Value.int IntKind.i64 (0))) := by kernel_rfl
theorem ZS26 : (Try.prog.info? 26).map (fun i => (i.zero, i.size)) = some (some (Value.int IntKind.i64 (0)), 1) := by kernel_rfl
theorem Inf27 : tInfo Try.prog 27 (Value.tuple { toList := [Value.agg { toList := [Value.string { data := { toList := [] } }, Value.slice none 0 0] }, Value.int IntKind.i64 (0)] }) 1 0 := by unfold tInfo; kernel_rfl
theorem Sz27 : (Try.prog.info? 27).map (·.size) = some 1 := Inf27.size
theorem Zr27 : (Try.prog.info? 27).map (·.zero) = some (some (Value.tuple { toList := [Value.agg { toList := [Value.string { data := { toList := [] } }, Value.slice none 0 0] }, Value.int IntKind.i64 (0)] })) := by kernel_rfl
theorem ZS27 : (Try.prog.info? 27).map (fun i => (i.zero, i.size)) = some (some (Value.tuple { toList := [Value.agg { toList := [Value.string { data := { toList := [] } }, Value.slice none 0 0] }, Value.int IntKind.i64 (0)] }), 1) := by kernel_rfl
theorem Inf28 : tInfo Try.prog 28 Value.nilFunc 1 8 := by unfold tInfo; kernel_rfl
theorem Sz28 : (Try.prog.info? 28).map (·.size) = some 1 := Inf28.size
theorem Zr28 : (Try.prog.info? 28).map (·.zero) = some (some Value.nilFunc) := by kernel_rfl
theorem ZS28 : (Try.prog.info? 28).map (fun i => (i.zero, i.size)) = some (some Value.nilFunc, 1) := by kernel_rfl
theorem Inf29 : tInfo Try.prog 29 Value.nilFunc 1 8 := by unfold tInfo; kernel_rfl
theorem Sz29 : (Try.prog.info? 29).map (·.size) = some 1 := Inf29.size
theorem Zr29 : (Try.prog.info? 29).map (·.zero) = some (some Value.nilFunc) := by kernel_rfl
theorem ZS29 : (Try.prog.info? 29).map (fun i => (i.zero, i.size)) = some (some Value.nilFunc, 1) := by kernel_rfl
theorem Inf30 : tInfo Try.prog 30 Value.nilFunc 1 8 := by unfold tInfo; kernel_rfl
theorem Sz30 : (Try.prog.info? 30).map (·.size) = some 1 := Inf30.size
theorem Zr30 : (Try.prog.info? 30).map (·.zero) = some (some Value.nilFunc) := by kernel_rfl
theorem ZS30 : (Try.prog.info? 30).map (fun i => (i.zero, i.size)) = some (some Value.nilFunc, 1) := by kernel_rfl
theorem Inf31 : tInfo Try.prog 31 (Value.agg { toList := [Value.string { data := { toList := [] } }, Value.string { data := { toList := [] } }, Value.bool false] }) 3 40 := by unfold tInfo; kernel_rfl
theorem Sz31 : (Try.prog.info? 31).map (·.size) = some 3 := Inf31.size
theorem Zr31 : (Try.prog.info? 31).map (·.zero) = some (some (Value.agg { toList := [Value.string { data := { toList := [] } }, Value.string { data := { toList := [] } }, Value.bool false] })) := by kernel_rfl
theorem ZS31 : (Try.prog.info? 31).map (fun i => (i.zero, i.size)) = some (some (Value.agg { toList := [Value.string { data := { toList := [] } }, Value.string { data := { toList := [] } }, Value.bool false] }), 3) := by kernel_rfl
theorem Inf32 : tInfo Try.prog 32 (Value.agg { toList := [Value.string { data := { toList := [] } }, Value.string { data := { toList := [] } }, Value.bool false] }) 3 40 := by unfold tInfo; kernel_rfl
theorem Sz32 : (Try.prog.info? 32).map (·.size) = some 3 := Inf32.size
theorem Zr32 : (Try.prog.info? 32).map (·.zero) = some (some (Value.agg { toList := [Value.string { data := { toList := [] } }, Value.string { data := { toList := [] } }, Value.bool false] })) := by kernel_rfl
theorem ZS32 : (Try.prog.info? 32).map (fun i => (i.zero, i.size)) = some (some (Value.agg { toList := [Value.string { data := { toList := [] } }, Value.string { data := { toList := [] } }, Value.bool false] }), 3) := by kernel_rfl
theorem Inf33 : tInfo Try.prog 33 (Value.int IntKind.i64 (0)) 1 8 := by unfold tInfo; kernel_rfl
theorem Sz33 : (Try.prog.info? 33).map (·.size) = some 1 := Inf33.size
theorem Zr33 : (Try.prog.info? 33).map (·.zero) = some (some (Value.int IntKind.i64 (0))) := by kernel_rfl
theorem ZS33 : (Try.prog.info? 33).map (fun i => (i.zero, i.size)) = some (some (Value.int IntKind.i64 (0)), 1) := by kernel_rfl
theorem Inf34 : tInfo Try.prog 34 (Value.slice none 0 0) 1 24 := by unfold tInfo; kernel_rfl
theorem Sz34 : (Try.prog.info? 34).map (·.size) = some 1 := Inf34.size
theorem Zr34 : (Try.prog.info? 34).map (·.zero) = some (some (Value.slice none 0 0)) := by kernel_rfl
theorem ZS34 : (Try.prog.info? 34).map (fun i => (i.zero, i.size)) = some (some (Value.slice none 0 0), 1) := by kernel_rfl
theorem Inf35 : tInfo Try.prog 35 (Value.slice none 0 0) 1 24 := by unfold tInfo; kernel_rfl
theorem Sz35 : (Try.prog.info? 35).map (·.size) = some 1 := Inf35.size
theorem Zr35 : (Try.prog.info? 35).map (·.zero) = some (some (Value.slice none 0 0)) := by kernel_rfl
theorem ZS35 : (Try.prog.info? 35).map (fun i => (i.zero, i.size)) = some (some (Value.slice none 0 0), 1) := by kernel_rfl
theorem Inf36 : tInfo Try.prog 36 (Value.agg { toList := [Value.int IntKind.i64 (0), Value.bool false, Value.int IntKind.i64 (0), Value.string { data := { toList := [] } }, Value.slice none 0 0, Value.slice none 0 0] }) 6 88 := by unfold tInfo; kernel_rfl
theorem Sz36 : (Try.prog.info? 36).map (·.size) = some 6 := Inf36.size
theorem Zr36 : (Try.prog.info? 36).map (·.zero) = some (some (Value.agg { toList := [Value.int IntKind.i64 (0), Value.bool false, Value.int IntKind.i64 (0), Value.string { data := { toList := [] } }, Value.slice none 0 0, Value.slice none 0 0] })) := by kernel_rfl
theorem ZS36 : (Try.prog.info? 36).map (fun i => (i.zero, i.size)) = some (some (Value.agg { toList := [Value.int IntKind.i64 (0), Value.bool false, Value.int IntKind.i64 (0), Value.string { data := { toList := [] } }, Value.slice none 0 0, Value.slice none 0 0] }), 6) := by kernel_rfl
theorem Inf37 : tInfo Try.prog 37 (Value.agg { toList := [Value.int IntKind.i64 (0), Value.bool false, Value.int IntKind.i64 (0), Value.string { data := { toList := [] } }, Value.slice none 0 0, Value.slice none 0 0] }) 6 88 := by unfold tInfo; kernel_rfl
theorem Sz37 : (Try.prog.info? 37).map (·.size) = some 6 := Inf37.size
theorem Zr37 : (Try.prog.info? 37).map (·.zero) = some (some (Value.agg { toList := [Value.int IntKind.i64 (0), Value.bool false, Value.int IntKind.i64 (0), Value.string { data := { toList := [] } }, Value.slice none 0 0, Value.slice none 0 0] })) := by kernel_rfl
theorem ZS37 : (Try.prog.info? 37).map (fun i => (i.zero, i.size)) = some (some (Value.agg { toList := [Value.int IntKind.i64 (0), Value.bool false, Value.int IntKind.i64 (0), Value.string { data := { toList := [] } }, Value.slice none 0 0, Value.slice none 0 0] }), 6) := by kernel_rfl
theorem Inf38 : tInfo Try.prog 38 Value.nilFunc 1 8 := by unfold tInfo; kernel_rfl
theorem Sz38 : (Try.prog.info? 38).map (·.size) = some 1 := Inf38.size
theorem Zr38 : (Try.prog.info? 38).map (·.zero) = some (some Value.nilFunc) := by kernel_rfl
theorem ZS38 : (Try.prog.info? 38).map (fun i => (i.zero, i.size)) = some (some Value.nilFunc, 1) := by kernel_rfl
theorem Inf39 : tInfo Try.prog 39 Value.nilFunc 1 8 := by unfold tInfo; kernel_rfl
theorem Sz39 : (Try.prog.info? 39).map (·.size) = some 1 := Inf39.size
theorem Zr39 : (Try.prog.info? 39).map (·.zero) = some (some Value.nilFunc) := by kernel_rfl
theorem ZS39 : (Try.prog.info? 39).map (fun i => (i.zero, i.size)) = some (some Value.nilFunc, 1) := by kernel_rfl
theorem Inf40 : tInfo Try.prog 40 Value.nilFunc 1 8 := by unfold tInfo; kernel_rfl
theorem Sz40 : (Try.prog.info? 40).map (·.size) = some 1 := Inf40.size
theorem Zr40 : (Try.prog.info? 40).map (·.zero) = some (some Value.nilFunc) := by kernel_rfl
theorem ZS40 : (Try.prog.info? 40).map (fun i => (i.zero, i.size)) = some (some Value.nilFunc, 1) := by kernel_rfl
theorem Inf41 : tInfo Try.prog 41 Value.nilFunc 1 8 := by unfold tInfo; kernel_rfl
theorem Sz41 : (Try.prog.info? 41).map (·.size) = some 1 := Inf41.size
theorem Zr41 : (Try.prog.info? 41).map (·.zero) = some (some Value.nilFunc) := by kernel_rfl
theorem ZS41 : (Try.prog.info? 41).map (fun i => (i.zero, i.size)) = some (some Value.nilFunc, 1) := by kernel_rfl
theorem Inf42 : tInfo Try.prog 42 Value.nilFunc 1 8 := by unfold tInfo; kernel_rfl
theorem Sz42 : (Try.prog.info? 42).map (·.size) = some 1 := Inf42.size
theorem Zr42 : (Try.prog.info? 42).map (·.zero) = some (some Value.nilFunc) := by kernel_rfl
theorem ZS42 : (Try.prog.info? 42).map (fun i => (i.zero, i.size)) = some (some Value.nilFunc, 1) := by kernel_rfl
theorem Inf43 : tInfo Try.prog 43 Value.nilFunc 1 8 := by unfold tInfo; kernel_rfl
theorem Sz43 : (Try.prog.info? 43).map (·.size) = some 1 := Inf43.size
theorem Zr43 : (Try.prog.info? 43).map (·.zero) = some (some Value.nilFunc) := by kernel_rfl
theorem ZS43 : (Try.prog.info? 43).map (fun i => (i.zero, i.size)) = some (some Value.nilFunc, 1) := by kernel_rfl
theorem Inf44 : tInfo Try.prog 44 Value.nilFunc 1 8 := by unfold tInfo; kernel_rfl
theorem Sz44 : (Try.prog.info? 44).map (·.size) = some 1 := Inf44.size
theorem Zr44 : (Try.prog.info? 44).map (·.zero) = some (some Value.nilFunc) := by kernel_rfl
theorem ZS44 : (Try.prog.info? 44).map (fun i => (i.zero, i.size)) = some (some Value.nilFunc, 1) := by kernel_rfl
theorem Inf45 : tInfo Try.prog 45 Value.nilFunc 1 8 := by unfold tInfo; kernel_rfl
theorem Sz45 : (Try.prog.info? 45).map (·.size) = some 1 := Inf45.size
theorem Zr45 : (Try.prog.info? 45).map (·.zero) = some (some Value.nilFunc) := by kernel_rfl
theorem ZS45 : (Try.prog.info? 45).map (fun i => (i.zero, i.size)) = some (some Value.nilFunc, 1) := by kernel_rfl
theorem Inf46 : tInfo Try.prog 46 (Value.slice none 0 0) 1 24 := by unfold tInfo; kernel_rfl
theorem Sz46 : (Try.prog.info? 46).map (·.size) = some 1 := Inf46.size
theorem Zr46 : (Try.prog.info? 46).map (·.zero) = some (some (Value.slice none 0 0)) := by kernel_rfl
theorem ZS46 : (Try.prog.info? 46).map (fun i => (i.zero, i.size)) = some (some (Value.slice none 0 0), 1) := by kernel_rfl
theorem Inf47 : tInfo Try.prog 47 (Value.tuple { toList := [Value.slice none 0 0, Value.int IntKind.i64 (0)] }) 1 0 := by unfold tInfo; kernel_rfl
theorem Sz47 : (Try.prog.info? 47).map (·.size) = some 1 := Inf47.size
theorem Zr47 : (Try.prog.info? 47).map (·.zero) = some (some (Value.tuple { toList := [Value.slice none 0 0, Value.int IntKind.i64 (0)] })) := by kernel_rfl
theorem ZS47 : (Try.prog.info? 47).map (fun i => (i.zero, i.size)) = some (some (Value.tuple { toList := [Value.slice none 0 0, Value.int IntKind.i64 (0)] }), 1) := by kernel_rfl
theorem Inf48 : tInfo Try.prog 48 Value.nilFunc 1 8 := by unfold tInfo; kernel_rfl
theorem Sz48 : (Try.prog.info? 48).map (·.size) = some 1 := Inf48.size
theorem Zr48 : (Try.prog.info? 48).map (·.zero) = some (some Value.nilFunc) := by kernel_rfl
theorem ZS48 : (Try.prog.info? 48).map (fun i => (i.zero, i.size)) = some (some Value.nilFunc, 1) := by kernel_rfl
theorem Inf49 : tInfo Try.prog 49 Value.nilFunc 1 8 := by unfold tInfo; kernel_rfl
theorem Sz49 : (Try.prog.info? 49).map (·.size) = some 1 := Inf49.size
theorem Zr49 : (Try.prog.info? 49).map (·.zero) = some (some Value.nilFunc) := by kernel_rfl
theorem ZS49 : (Try.prog.info? 49).map (fun i => (i.zero, i.size)) = some (some Value.nilFunc, 1) := by kernel_rfl
theorem Inf50 : tInfo Try.prog 50 Value.nilFunc 1 8 := by unfold tInfo; kernel_rfl
theorem Sz50 : (Try.prog.info? 50).map (·.size) = some 1 := Inf50.size
theorem Zr50 : (Try.prog.info? 50).map (·.zero) = some (some Value.nilFunc) := by kernel_rfl
theorem ZS50 : (Try.prog.info? 50).map (fun i => (i.zero, i.size)) = some (some Value.nilFunc, 1) := by kernel_rfl
theorem Inf51 : tInfo Try.prog 51 (Value.slice none 0 0) 1 24 := by unfold tInfo; kernel_rfl
theorem Sz51 : (Try.prog.info? 51).map (·.size) = some 1 := Inf51.size
theorem Zr51 : (Try.prog.info? 51).map (·.zero) = some (some (Value.slice none 0 0)) := by kernel_rfl
theorem ZS51 : (Try.prog.info? 51).map (fun i => (i.zero, i.size)) = some (some (Value.slice none 0 0), 1) := by kernel_rfl
theorem Inf52 : tInfo Try.prog 52 (Value.pointer none) 1 8 := by unfold tInfo; kernel_rfl
theorem Sz52 : (Try.prog.info? 52).map (·.size) = some 1 := Inf52.size
theorem Zr52 : (Try.prog.info? 52).map (·.zero) = some (some (Value.pointer none)) := by kernel_rfl
theorem ZS52 : (Try.prog.info? 52).map (fun i => (i.zero, i.size)) = some (some (Value.pointer none), 1) := by kernel_rfl
theorem Inf53 : tInfo Try.prog 53 (Value.tuple { toList := [Value.pointer none, Value.int IntKind.i64 (0)] }) 1 0 := by unfold tInfo; kernel_rfl
theorem Sz53 : (Try.prog.info? 53).map (·.size) = some 1 := Inf53.size
theorem Zr53 : (Try.prog.info? 53).map (·.zero) = some (some (Value.tuple { toList := [Value.pointer none, Value.int IntKind.i64 (0)] })) := by kernel_rfl
theorem ZS53 : (Try.prog.info? 53).map (fun i => (i.zero, i.size)) = some (some (Value.tuple { toList := [Value.pointer none, Value.int IntKind.i64 (0)] }), 1) := by kernel_rfl
theorem Inf54 : tInfo Try.prog 54 Value.nilFunc 1 8 := by unfold tInfo; kernel_rfl
theorem Sz54 : (Try.prog.info? 54).map (·.size) = some 1 := Inf54.size
theorem Zr54 : (Try.prog.info? 54).map (·.zero) = some (some Value.nilFunc) := by kernel_rfl
theorem ZS54 : (Try.prog.info? 54).map (fun i => (i.zero, i.size)) = some (some Value.nilFunc, 1) := by kernel_rfl
theorem Inf55 : tInfo Try.prog 55 (Value.pointer none) 1 8 := by unfold tInfo; kernel_rfl
theorem Sz55 : (Try.prog.info? 55).map (·.size) = some 1 := Inf55.size
theorem Zr55 : (Try.prog.info? 55).map (·.zero) = some (some (Value.pointer none)) := by kernel_rfl
theorem ZS55 : (Try.prog.info? 55).map (fun i => (i.zero, i.size)) = some (some (Value.pointer none), 1) := by kernel_rfl
theorem Inf56 : tInfo Try.prog 56 Value.nilFunc 1 8 := by unfold tInfo; kernel_rfl
theorem Sz56 : (Try.prog.info? 56).map (·.size) = some 1 := Inf56.size
theorem Zr56 : (Try.prog.info? 56).map (·.zero) = some (some Value.nilFunc) := by kernel_rfl
theorem ZS56 : (Try.prog.info? 56).map (fun i => (i.zero, i.size)) = some (some Value.nilFunc, 1) := by kernel_rfl
theorem Inf57 : tInfo Try.prog 57 (Value.map none) 1 8 := by unfold tInfo; kernel_rfl
theorem Sz57 : (Try.prog.info? 57).map (·.size) = some 1 := Inf57.size
theorem Zr57 : (Try.prog.info? 57).map (·.zero) = some (some (Value.map none)) := by kernel_rfl
theorem ZS57 : (Try.prog.info? 57).map (fun i => (i.zero, i.size)) = some (some (Value.map none), 1) := by kernel_rfl
theorem Inf58 : tInfo Try.prog 58 Value.nilFunc 1 8 := by unfold tInfo; kernel_rfl
theorem Sz58 : (Try.prog.info? 58).map (·.size) = some 1 := Inf58.size
theorem Zr58 : (Try.prog.info? 58).map (·.zero) = some (some Value.nilFunc) := by kernel_rfl
theorem ZS58 : (Try.prog.info? 58).map (fun i => (i.zero, i.size)) = some (some Value.nilFunc, 1) := by kernel_rfl
theorem Inf59 : tInfo Try.prog 59 (Value.tuple { toList := [Value.agg { toList := [Value.string { data := { toList := [] } }, Value.slice none 0 0] }, Value.bool false] }) 1 0 := by unfold tInfo; kernel_rfl
theorem Sz59 : (Try.prog.info? 59).map (·.size) = some 1 := Inf59.size
theorem Zr59 : (Try.prog.info? 59).map (·.zero) = some (some (Value.tuple { toList := [Value.agg { toList := [Value.string { data := { toList := [] } }, Value.slice none 0 0] }, Value.bool false] })) := by kernel_rfl
theorem ZS59 : (Try.prog.info? 59).map (fun i => (i.zero, i.size)) = some (some (Value.tuple { toList := [Value.agg { toList := [Value.string { data := { toList := [] } }, Value.slice none 0 0] }, Value.bool false] }), 1) := by kernel_rfl
theorem Inf60 : tInfo Try.prog 60 Value.nilFunc 1 8 := by unfold tInfo; kernel_rfl
theorem Sz60 : (Try.prog.info? 60).map (·.size) = some 1 := Inf60.size
theorem Zr60 : (Try.prog.info? 60).map (·.zero) = some (some Value.nilFunc) := by kernel_rfl
theorem ZS60 : (Try.prog.info? 60).map (fun i => (i.zero, i.size)) = some (some Value.nilFunc, 1) := by kernel_rfl
theorem Inf61 : tInfo Try.prog 61 Value.nilFunc 1 8 := by unfold tInfo; kernel_rfl
theorem Sz61 : (Try.prog.info? 61).map (·.size) = some 1 := Inf61.size
theorem Zr61 : (Try.prog.info? 61).map (·.zero) = some (some Value.nilFunc) := by kernel_rfl
theorem ZS61 : (Try.prog.info? 61).map (fun i => (i.zero, i.size)) = some (some Value.nilFunc, 1) := by kernel_rfl
theorem Inf62 : tInfo Try.prog 62 (Value.slice none 0 0) 1 24 := by unfold tInfo; kernel_rfl
theorem Sz62 : (Try.prog.info? 62).map (·.size) = some 1 := Inf62.size
theorem Zr62 : (Try.prog.info? 62).map (·.zero) = some (some (Value.slice none 0 0)) := by kernel_rfl
theorem ZS62 : (Try.prog.info? 62).map (fun i => (i.zero, i.size)) = some (some (Value.slice none 0 0), 1) := by kernel_rfl
theorem Inf63 : tInfo Try.prog 63 Value.nilFunc 1 8 := by unfold tInfo; kernel_rfl
theorem Sz63 : (Try.prog.info? 63).map (·.size) = some 1 := Inf63.size
theorem Zr63 : (Try.prog.info? 63).map (·.zero) = some (some Value.nilFunc) := by kernel_rfl
theorem ZS63 : (Try.prog.info? 63).map (fun i => (i.zero, i.size)) = some (some Value.nilFunc, 1) := by kernel_rfl
theorem Inf64 : tInfo Try.prog 64 Value.nilFunc 1 8 := by unfold tInfo; kernel_rfl
theorem Sz64 : (Try.prog.info? 64).map (·.size) = some 1 := Inf64.size
theorem Zr64 : (Try.prog.info? 64).map (·.zero) = some (some Value.nilFunc) := by kernel_rfl
theorem ZS64 : (Try.prog.info? 64).map (fun i => (i.zero, i.size)) = some (some Value.nilFunc, 1) := by kernel_rfl
theorem Inf65 : tInfo Try.prog 65 (Value.tuple { toList := [Value.agg { toList := [Value.string { data := { toList := [] } }, Value.string { data := { toList := [] } }, Value.bool false] }, Value.bool false] }) 1 0 := by unfold tInfo; kernel_rfl
theorem Sz65 : (Try.prog.info? 65).map (·.size) = some 1 := Inf65.size
theorem Zr65 : (Try.prog.info? 65).map (·.zero) = some (some (Value.tuple { toList := [Value.agg { toList := [Value.string { data := { toList := [] } }, Value.string { data := { toList := [] } }, Value.bool false] }, Value.bool false] })) := by kernel_rfl
theorem ZS65 : (Try.prog.info? 65).map (fun i => (i.zero, i.size)) = some (some (Value.tuple { toList := [Value.agg { toList := [Value.string { data := { toList := [] } }, Value.string { data := { toList := [] } }, Value.bool false] }, Value.bool false] }), 1) := by kernel_rfl
theorem Inf66 : tInfo Try.prog 66 Value.nilFunc 1 8 := by unfold tInfo; kernel_rfl
theorem Sz66 : (Try.prog.info? 66).map (·.size) = some 1 := Inf66.size
theorem Zr66 : (Try.prog.info? 66).map (·.zero) = some (some Value.nilFunc) := by kernel_rfl
theorem ZS66 : (Try.prog.info? 66).map (fun i => (i.zero, i.size)) = some (some Value.nilFunc, 1) := by kernel_rfl
theorem Inf67 : tInfo Try.prog 67 Value.nilFunc 1 8 := by unfold tInfo; kernel_rfl
theorem Sz67 : (Try.prog.info? 67).map (·.size) = some 1 := Inf67.size
theorem Zr67 : (Try.prog.info? 67).map (·.zero) = some (some Value.nilFunc) := by kernel_rfl
theorem ZS67 : (Try.prog.info? 67).map (fun i => (i.zero, i.size)) = some (some Value.nilFunc, 1) := by kernel_rfl
theorem Inf68 : tInfo Try.prog 68 (Value.tuple { toList := [Value.string { data := { toList := [] } }, Value.int IntKind.i64 (0)] }) 1 0 := by unfold tInfo; kernel_rfl
theorem Sz68 : (Try.prog.info? 68).map (·.size) = some 1 := Inf68.size
theorem Zr68 : (Try.prog.info? 68).map (·.zero) = some (some (Value.tuple { toList := [Value.string { data := { toList := [] } }, Value.int IntKind.i64 (0)] })) := by kernel_rfl
theorem ZS68 : (Try.prog.info? 68).map (fun i => (i.zero, i.size)) = some (some (Value.tuple { toList := [Value.string { data := { toList := [] } }, Value.int IntKind.i64 (0)] }), 1) := by kernel_rfl
theorem Inf69 : tInfo Try.prog 69 Value.nilFunc 1 8 := by unfold tInfo; kernel_rfl
theorem Sz69 : (Try.prog.info? 69).map (·.size) = some 1 := Inf69.size
theorem Zr69 : (Try.prog.info? 69).map (·.zero) = some (some Value.nilFunc) := by kernel_rfl
theorem ZS69 : (Try.prog.info? 69).map (fun i => (i.zero, i.size)) = some (some Value.nilFunc, 1) := by kernel_rfl
theorem Inf70 : tInfo Try.prog 70 (Value.tuple { toList := [Value.agg { toList := [Value.int IntKind.i64 (0), Value.bool false, Value.int IntKind.i64 (0), Value.string { data := { toList := [] } }, Value.slice none 0 0, Value.slice none 0 0] }, Value.int IntKind.i64 (0)] }) 1 0 := by unfold tInfo; kernel_rfl
theorem Sz70 : (Try.prog.info? 70).map (·.size) = some 1 := Inf70.size
theorem Zr70 : (Try.prog.info? 70).map (·.zero) = some (some (Value.tuple { toList := [Value.agg { toList := [Value.int IntKind.i64 (0), Value.bool false, Value.int IntKind.i64 (0), Value.string { data := { toList := [] } }, Value.slice none 0 0, Value.slice none 0 0] }, Value.int IntKind.i64 (0)] })) := by kernel_rfl
theorem ZS70 : (Try.prog.info? 70).map (fun i => (i.zero, i.size)) = some (some (Value.tuple { toList := [Value.agg { toList := [Value.int IntKind.i64 (0), Value.bool false, Value.int IntKind.i64 (0), Value.string { data := { toList := [] } }, Value.slice none 0 0, Value.slice none 0 0] }, Value.int IntKind.i64 (0)] }), 1) := by kernel_rfl
theorem Inf71 : tInfo Try.prog 71 Value.nilFunc 1 8 := by unfold tInfo; kernel_rfl
theorem Sz71 : (Try.prog.info? 71).map (·.size) = some 1 := Inf71.size
theorem Zr71 : (Try.prog.info? 71).map (·.zero) = some (some Value.nilFunc) := by kernel_rfl
theorem ZS71 : (Try.prog.info? 71).map (fun i => (i.zero, i.size)) = some (some Value.nilFunc, 1) := by kernel_rfl
theorem Inf72 : tInfo Try.prog 72 Value.nilFunc 1 8 := by unfold tInfo; kernel_rfl
theorem Sz72 : (Try.prog.info? 72).map (·.size) = some 1 := Inf72.size
theorem Zr72 : (Try.prog.info? 72).map (·.zero) = some (some Value.nilFunc) := by kernel_rfl
theorem ZS72 : (Try.prog.info? 72).map (fun i => (i.zero, i.size)) = some (some Value.nilFunc, 1) := by kernel_rfl
theorem Inf73 : tInfo Try.prog 73 Value.nilFunc 1 8 := by unfold tInfo; kernel_rfl
theorem Sz73 : (Try.prog.info? 73).map (·.size) = some 1 := Inf73.size
theorem Zr73 : (Try.prog.info? 73).map (·.zero) = some (some Value.nilFunc) := by kernel_rfl
theorem ZS73 : (Try.prog.info? 73).map (fun i => (i.zero, i.size)) = some (some Value.nilFunc, 1) := by kernel_rfl
theorem Inf74 : tInfo Try.prog 74 Value.nilFunc 1 8 := by unfold tInfo; kernel_rfl
theorem Sz74 : (Try.prog.info? 74).map (·.size) = some 1 := Inf74.size
theorem Zr74 : (Try.prog.info? 74).map (·.zero) = some (some Value.nilFunc) := by kernel_rfl
theorem ZS74 : (Try.prog.info? 74).map (fun i => (i.zero, i.size)) = some (some Value.nilFunc, 1) := by kernel_rfl
theorem Inf75 : tInfo Try.prog 75 Value.nilFunc 1 8 := by unfold tInfo; kernel_rfl
theorem Sz75 : (Try.prog.info? 75).map (·.size) = some 1 := Inf75.size
theorem Zr75 : (Try.prog.info? 75).map (·.zero) = some (some Value.nilFunc) := by kernel_rfl
theorem ZS75 : (Try.prog.info? 75).map (fun i => (i.zero, i.size)) = some (some Value.nilFunc, 1) := by kernel_rfl
theorem Inf76 : tInfo Try.prog 76 Value.nilFunc 1 8 := by unfold tInfo; kernel_rfl
theorem Sz76 : (Try.prog.info? 76).map (·.size) = some 1 := Inf76.size
theorem Zr76 : (Try.prog.info? 76).map (·.zero) = some (some Value.nilFunc) := by kernel_rfl
theorem ZS76 : (Try.prog.info? 76).map (fun i => (i.zero, i.size)) = some (some Value.nilFunc, 1) := by kernel_rfl
theorem Inf77 : tInfo Try.prog 77 Value.nilFunc 1 8 := by unfold tInfo; kernel_rfl
theorem Sz77 : (Try.prog.info? 77).map (·.size) = some 1 := Inf77.size
theorem Zr77 : (Try.prog.info? 77).map (·.zero) = some (some Value.nilFunc) := by kernel_rfl
theorem ZS77 : (Try.prog.info? 77).map (fun i => (i.zero, i.size)) = some (some Value.nilFunc, 1) := by kernel_rfl
theorem Inf78 : tInfo Try.prog 78 (Value.slice none 0 0) 1 24 := by unfold tInfo; kernel_rfl
theorem Sz78 : (Try.prog.info? 78).map (·.size) = some 1 := Inf78.size
theorem Zr78 : (Try.prog.info? 78).map (·.zero) = some (some (Value.slice none 0 0)) := by kernel_rfl
theorem ZS78 : (Try.prog.info? 78).map (fun i => (i.zero, i.size)) = some (some (Value.slice none 0 0), 1) := by kernel_rfl
theorem Inf79 : tInfo Try.prog 79 Value.nilFunc 1 8 := by unfold tInfo; kernel_rfl
theorem Sz79 : (Try.prog.info? 79).map (·.size) = some 1 := Inf79.size
theorem Zr79 : (Try.prog.info? 79).map (·.zero) = some (some Value.nilFunc) := by kernel_rfl
theorem ZS79 : (Try.prog.info? 79).map (fun i => (i.zero, i.size)) = some (some Value.nilFunc, 1) := by kernel_rfl
theorem Inf80 : tInfo Try.prog 80 Value.nilFunc 1 8 := by unfold tInfo; kernel_rfl
theorem Sz80 : (Try.prog.info? 80).map (·.size) = some 1 := Inf80.size
theorem Zr80 : (Try.prog.info? 80).map (·.zero) = some (some Value.nilFunc) := by kernel_rfl
theorem ZS80 : (Try.prog.info? 80).map (fun i => (i.zero, i.size)) = some (some Value.nilFunc, 1) := by kernel_rfl
theorem Inf81 : tInfo Try.prog 81 Value.nilFunc 1 8 := by unfold tInfo; kernel_rfl
theorem Sz81 : (Try.prog.info? 81).map (·.size) = some 1 := Inf81.size
theorem Zr81 : (Try.prog.info? 81).map (·.zero) = some (some Value.nilFunc) := by kernel_rfl
theorem ZS81 : (Try.prog.info? 81).map (fun i => (i.zero, i.size)) = some (some Value.nilFunc, 1) := by kernel_rfl
theorem Inf82 : tInfo Try.prog 82 Value.nilFunc 1 8 := by unfold tInfo; kernel_rfl
theorem Sz82 : (Try.prog.info? 82).map (·.size) = some 1 := Inf82.size
theorem Zr82 : (Try.prog.info? 82).map (·.zero) = some (some Value.nilFunc) := by kernel_rfl
theorem ZS82 : (Try.prog.info? 82).map (fun i => (i.zero, i.size)) = some (some Value.nilFunc, 1) := by kernel_rfl
theorem Inf83 : tInfo Try.prog 83 Value.nilFunc 1 8 := by unfold tInfo; kernel_rfl
theorem Sz83 : (Try.prog.info? 83).map (·.size) = some 1 := Inf83.size
theorem Zr83 : (Try.prog.info? 83).map (·.zero) = some (some Value.nilFunc) := by kernel_rfl
theorem ZS83 : (Try.prog.info? 83).map (fun i => (i.zero, i.size)) = some (some Value.nilFunc, 1) := by kernel_rfl
theorem Inf84 : tInfo Try.prog 84 Value.nilFunc 1 8 := by unfold tInfo; kernel_rfl
theorem Sz84 : (Try.prog.info? 84).map (·.size) = some 1 := Inf84.size
theorem Zr84 : (Try.prog.info? 84).map (·.zero) = some (some Value.nilFunc) := by kernel_rfl
theorem ZS84 : (Try.prog.info? 84).map (fun i => (i.zero, i.size)) = some (some Value.nilFunc, 1) := by kernel_rfl
theorem Inf85 : tInfo Try.prog 85 Value.nilFunc 1 8 := by unfold tInfo; kernel_rfl
theorem Sz85 : (Try.prog.info? 85).map (·.size) = some 1 := Inf85.size
theorem Zr85 : (Try.prog.info? 85).map (·.zero) = some (some Value.nilFunc) := by kernel_rfl
theorem ZS85 : (Try.prog.info? 85).map (fun i => (i.zero, i.size)) = some (some Value.nilFunc, 1) := by kernel_rfl
theorem Inf86 : tInfo Try.prog 86 (Value.slice none 0 0) 1 24 := by unfold tInfo; kernel_rfl
theorem Sz86 : (Try.prog.info? 86).map (·.size) = some 1 := Inf86.size
theorem Zr86 : (Try.prog.info? 86).map (·.zero) = some (some (Value.slice none 0 0)) := by kernel_rfl
theorem ZS86 : (Try.prog.info? 86).map (fun i => (i.zero, i.size)) = some (some (Value.slice none 0 0), 1) := by kernel_rfl
theorem Inf87 : tInfo Try.prog 87 Value.nilFunc 1 8 := by unfold tInfo; kernel_rfl
theorem Sz87 : (Try.prog.info? 87).map (·.size) = some 1 := Inf87.size
theorem Zr87 : (Try.prog.info? 87).map (·.zero) = some (some Value.nilFunc) := by kernel_rfl
theorem ZS87 : (Try.prog.info? 87).map (fun i => (i.zero, i.size)) = some (some Value.nilFunc, 1) := by kernel_rfl
theorem Inf88 : tInfo Try.prog 88 (Value.agg { toList := [Value.string { data := { toList := [] } }, Value.int IntKind.i64 (0), Value.bool false, Value.int IntKind.i64 (0), Value.string { data := { toList := [] } }, Value.slice none 0 0, Value.slice none 0 0] }) 7 104 := by unfold tInfo; kernel_rfl
theorem Sz88 : (Try.prog.info? 88).map (·.size) = some 7 := Inf88.size
theorem Zr88 : (Try.prog.info? 88).map (·.zero) = some (some (Value.agg { toList := [Value.string { data := { toList := [] } }, Value.int IntKind.i64 (0), Value.bool false, Value.int IntKind.i64 (0), Value.string { data := { toList := [] } }, Value.slice none 0 0, Value.slice none 0 0] })) := by kernel_rfl
theorem ZS88 : (Try.prog.info? 88).map (fun i => (i.zero, i.size)) = some (some (Value.agg { toList := [Value.string { data := { toList := [] } }, Value.int IntKind.i64 (0), Value.bool false, Value.int IntKind.i64 (0), Value.string { data := { toList := [] } }, Value.slice none 0 0, Value.slice none 0 0] }), 7) := by kernel_rfl
theorem Inf89 : tInfo Try.prog 89 (Value.agg { toList := [Value.string { data := { toList := [] } }, Value.int IntKind.i64 (0), Value.bool false, Value.int IntKind.i64 (0), Value.string { data := { toList := [] } }, Value.slice none 0 0, Value.slice none 0 0] }) 7 104 := by unfold tInfo; kernel_rfl
theorem Sz89 : (Try.prog.info? 89).map (·.size) = some 7 := Inf89.size
theorem Zr89 : (Try.prog.info? 89).map (·.zero) = some (some (Value.agg { toList := [Value.string { data := { toList := [] } }, Value.int IntKind.i64 (0), Value.bool false, Value.int IntKind.i64 (0), Value.string { data := { toList := [] } }, Value.slice none 0 0, Value.slice none 0 0] })) := by kernel_rfl
theorem ZS89 : (Try.prog.info? 89).map (fun i => (i.zero, i.size)) = some (some (Value.agg { toList := [Value.string { data := { toList := [] } }, Value.int IntKind.i64 (0), Value.bool false, Value.int IntKind.i64 (0), Value.string { data := { toList := [] } }, Value.slice none 0 0, Value.slice none 0 0] }), 7) := by kernel_rfl
theorem Inf90 : tInfo Try.prog 90 Value.nilFunc 1 8 := by unfold tInfo; kernel_rfl
theorem Sz90 : (Try.prog.info? 90).map (·.size) = some 1 := Inf90.size
theorem Zr90 : (Try.prog.info? 90).map (·.zero) = some (some Value.nilFunc) := by kernel_rfl
theorem ZS90 : (Try.prog.info? 90).map (fun i => (i.zero, i.size)) = some (some Value.nilFunc, 1) := by kernel_rfl
theorem Inf91 : tInfo Try.prog 91 (Value.pointer none) 1 8 := by unfold tInfo; kernel_rfl
theorem Sz91 : (Try.prog.info? 91).map (·.size) = some 1 := Inf91.size
theorem Zr91 : (Try.prog.info? 91).map (·.zero) = some (some (Value.pointer none)) := by kernel_rfl
theorem ZS91 : (Try.prog.info? 91).map (fun i => (i.zero, i.size)) = some (some (Value.pointer none), 1) := by kernel_rfl
theorem Inf92 : tInfo Try.prog 92 Value.nilFunc 1 8 := by unfold tInfo; kernel_rfl
theorem Sz92 : (Try.prog.info? 92).map (·.size) = some 1 := Inf92.size
theorem Zr92 : (Try.prog.info? 92).map (·.zero) = some (some Value.nilFunc) := by kernel_rfl
theorem ZS92 : (Try.prog.info? 92).map (fun i => (i.zero, i.size)) = some (some Value.nilFunc, 1) := by kernel_rfl
theorem Inf93 : tInfo Try.prog 93 Value.nilFunc 1 8 := by unfold tInfo; kernel_rfl
theorem Sz93 : (Try.prog.info? 93).map (·.size) = some 1 := Inf93.size
theorem Zr93 : (Try.prog.info? 93).map (·.zero) = some (some Value.nilFunc) := by kernel_rfl
theorem ZS93 : (Try.prog.info? 93).map (fun i => (i.zero, i.size)) = some (some Value.nilFunc, 1) := by kernel_rfl
theorem Inf94 : tInfo Try.prog 94 Value.nilFunc 1 8 := by unfold tInfo; kernel_rfl
theorem Sz94 : (Try.prog.info? 94).map (·.size) = some 1 := Inf94.size
theorem Zr94 : (Try.prog.info? 94).map (·.zero) = some (some Value.nilFunc) := by kernel_rfl
theorem ZS94 : (Try.prog.info? 94).map (fun i => (i.zero, i.size)) = some (some Value.nilFunc, 1) := by kernel_rfl
theorem Inf95 : tInfo Try.prog 95 Value.nilFunc 1 8 := by unfold tInfo; kernel_rfl
theorem Sz95 : (Try.prog.info? 95).map (·.size) = some 1 := Inf95.size
theorem Zr95 : (Try.prog.info? 95).map (·.zero) = some (some Value.nilFunc) := by kernel_rfl
theorem ZS95 : (Try.prog.info? 95).map (fun i => (i.zero, i.size)) = some (some Value.nilFunc, 1) := by kernel_rfl
theorem Inf96 : tInfo Try.prog 96 Value.nilFunc 1 8 := by unfold tInfo; kernel_rfl
theorem Sz96 : (Try.prog.info? 96).map (·.size) = some 1 := Inf96.size
theorem Zr96 : (Try.prog.info? 96).map (·.zero) = some (some Value.nilFunc) := by kernel_rfl
theorem ZS96 : (Try.prog.info? 96).map (fun i => (i.zero, i.size)) = some (some Value.nilFunc, 1) := by kernel_rfl
theorem Inf97 : tInfo Try.prog 97 Value.nilFunc 1 8 := by unfold tInfo; kernel_rfl
theorem Sz97 : (Try.prog.info? 97).map (·.size) = some 1 := Inf97.size
theorem Zr97 : (Try.prog.info? 97).map (·.zero) = some (some Value.nilFunc) := by kernel_rfl
theorem ZS97 : (Try.prog.info? 97).map (fun i => (i.zero, i.size)) = some (some Value.nilFunc, 1) := by kernel_rfl
theorem Inf98 : tInfo Try.prog 98 Value.nilFunc 1 8 := by unfold tInfo; kernel_rfl
theorem Sz98 : (Try.prog.info? 98).map (·.size) = some 1 := Inf98.size
theorem Zr98 : (Try.prog.info? 98).map (·.zero) = some (some Value.nilFunc) := by kernel_rfl
theorem ZS98 : (Try.prog.info? 98).map (fun i => (i.zero, i.size)) = some (some Value.nilFunc, 1) := by kernel_rfl
theorem Inf99 : tInfo Try.prog 99 Value.nilFunc 1 8 := by unfold tInfo; kernel_rfl
theorem Sz99 : (Try.prog.info? 99).map (·.size) = some 1 := Inf99.size
theorem Zr99 : (Try.prog.info? 99).map (·.zero) = some (some Value.nilFunc) := by kernel_rfl
theorem ZS99 : (Try.prog.info? 99).map (fun i => (i.zero, i.size)) = some (some Value.nilFunc, 1) := by kernel_rfl
theorem Inf100 : tInfo Try.prog 100 (Value.int IntKind.u64 (0)) 1 8 := by unfold tInfo; kernel_rfl
theorem Sz100 : (Try.prog.info? 100).map (·.size) = some 1 := Inf100.size
theorem Zr100 : (Try.prog.info? 100).map (·.zero) = some (some (Value.int IntKind.u64 (0))) := by kernel_rfl
theorem ZS100 : (Try.prog.info? 100).map (fun i => (i.zero, i.size)) = some (some (Value.int IntKind.u64 (0)), 1) := by kernel_rfl
theorem Inf101 : tInfo Try.prog 101 Value.nilFunc 1 8 := by unfold tInfo; kernel_rfl
theorem Sz101 : (Try.prog.info? 101).map (·.size) = some 1 := Inf101.size
theorem Zr101 : (Try.prog.info? 101).map (·.zero) = some (some Value.nilFunc) := by kernel_rfl
theorem ZS101 : (Try.prog.info? 101).map (fun i => (i.zero, i.size)) = some (some Value.nilFunc, 1) := by kernel_rfl
theorem Inf102 : tInfo Try.prog 102 Value.nilFunc 1 8 := by unfold tInfo; kernel_rfl
theorem Sz102 : (Try.prog.info? 102).map (·.size) = some 1 := Inf102.size
theorem Zr102 : (Try.prog.info? 102).map (·.zero) = some (some Value.nilFunc) := by kernel_rfl
theorem ZS102 : (Try.prog.info? 102).map (fun i => (i.zero, i.size)) = some (some Value.nilFunc, 1) := by kernel_rfl
theorem Inf103 : tInfo Try.prog 103 Value.nilFunc 1 8 := by unfold tInfo; kernel_rfl
theorem Sz103 : (Try.prog.info? 103).map (·.size) = some 1 := Inf103.size
theorem Zr103 : (Try.prog.info? 103).map (·.zero) = some (some Value.nilFunc) := by kernel_rfl
theorem ZS103 : (Try.prog.info? 103).map (fun i => (i.zero, i.size)) = some (some Value.nilFunc, 1) := by kernel_rfl
theorem Inf104 : tInfo Try.prog 104 Value.nilFunc 1 8 := by unfold tInfo; kernel_rfl
theorem Sz104 : (Try.prog.info? 104).map (·.size) = some 1 := Inf104.size
theorem Zr104 : (Try.prog.info? 104).map (·.zero) = some (some Value.nilFunc) := by kernel_rfl
theorem ZS104 : (Try.prog.info? 104).map (fun i => (i.zero, i.size)) = some (some Value.nilFunc, 1) := by kernel_rfl
theorem Inf105 : tInfo Try.prog 105 Value.nilFunc 1 8 := by unfold tInfo; kernel_rfl
theorem Sz105 : (Try.prog.info? 105).map (·.size) = some 1 := Inf105.size
theorem Zr105 : (Try.prog.info? 105).map (·.zero) = some (some Value.nilFunc) := by kernel_rfl
theorem ZS105 : (Try.prog.info? 105).map (fun i => (i.zero, i.size)) = some (some Value.nilFunc, 1) := by kernel_rfl
theorem Inf106 : tInfo Try.prog 106 Value.nilFunc 1 8 := by unfold tInfo; kernel_rfl
theorem Sz106 : (Try.prog.info? 106).map (·.size) = some 1 := Inf106.size
theorem Zr106 : (Try.prog.info? 106).map (·.zero) = some (some Value.nilFunc) := by kernel_rfl
theorem ZS106 : (Try.prog.info? 106).map (fun i => (i.zero, i.size)) = some (some Value.nilFunc, 1) := by kernel_rfl
theorem Inf107 : tInfo Try.prog 107 Value.nilFunc 1 8 := by unfold tInfo; kernel_rfl
theorem Sz107 : (Try.prog.info? 107).map (·.size) = some 1 := Inf107.size
theorem Zr107 : (Try.prog.info? 107).map (·.zero) = some (some Value.nilFunc) := by kernel_rfl
theorem ZS107 : (Try.prog.info? 107).map (fun i => (i.zero, i.size)) = some (some Value.nilFunc, 1) := by kernel_rfl
theorem Inf108 : tInfo Try.prog 108 Value.nilFunc 1 8 := by unfold tInfo; kernel_rfl
theorem Sz108 : (Try.prog.info? 108).map (·.size) = some 1 := Inf108.size
theorem Zr108 : (Try.prog.info? 108).map (·.zero) = some (some Value.nilFunc) := by kernel_rfl
theorem ZS108 : (Try.prog.info? 108).map (fun i => (i.zero, i.size)) = some (some Value.nilFunc, 1) := by kernel_rfl
theorem Inf109 : tInfo Try.prog 109 Value.nilFunc 1 8 := by unfold tInfo; kernel_rfl
theorem Sz109 : (Try.prog.info? 109).map (·.size) = some 1 := Inf109.size
theorem Zr109 : (Try.prog.info? 109).map (·.zero) = some (some Value.nilFunc) := by kernel_rfl
theorem ZS109 : (Try.prog.info? 109).map (fun i => (i.zero, i.size)) = some (some Value.nilFunc, 1) := by kernel_rfl
theorem Inf110 : tInfo Try.prog 110 Value.nilFunc 1 8 := by unfold tInfo; kernel_rfl
theorem Sz110 : (Try.prog.info? 110).map (·.size) = some 1 := Inf110.size
theorem Zr110 : (Try.prog.info? 110).map (·.zero) = some (some Value.nilFunc) := by kernel_rfl
theorem ZS110 : (Try.prog.info? 110).map (fun i => (i.zero, i.size)) = some (some Value.nilFunc, 1) := by kernel_rfl
theorem Inf111 : tInfo Try.prog 111 (Value.tuple { toList := [Value.string { data := { toList := [] } }, Value.string { data := { toList := [] } }, Value.bool false] }) 1 0 := by unfold tInfo; kernel_rfl
theorem Sz111 : (Try.prog.info? 111).map (·.size) = some 1 := Inf111.size
theorem Zr111 : (Try.prog.info? 111).map (·.zero) = some (some (Value.tuple { toList := [Value.string { data := { toList := [] } }, Value.string { data := { toList := [] } }, Value.bool false] })) := by kernel_rfl
theorem ZS111 : (Try.prog.info? 111).map (fun i => (i.zero, i.size)) = some (some (Value.tuple { toList := [Value.string { data := { toList := [] } }, Value.string { data := { toList := [] } }, Value.bool false] }), 1) := by kernel_rfl
theorem Inf112 : tInfo Try.prog 112 Value.nilFunc 1 8 := by unfold tInfo; kernel_rfl
theorem Sz112 : (Try.prog.info? 112).map (·.size) = some 1 := Inf112.size
theorem Zr112 : (Try.prog.info? 112).map (·.zero) = some (some Value.nilFunc) := by kernel_rfl
theorem ZS112 : (Try.prog.info? 112).map (fun i => (i.zero, i.size)) = some (some Value.nilFunc, 1) := by kernel_rfl
theorem Inf113 : tInfo Try.prog 113 Value.nilFunc 1 8 := by unfold tInfo; kernel_rfl
theorem Sz113 : (Try.prog.info? 113).map (·.size) = some 1 := Inf113.size
theorem Zr113 : (Try.prog.info? 113).map (·.zero) = some (some Value.nilFunc) := by kernel_rfl
theorem ZS113 : (Try.prog.info? 113).map (fun i => (i.zero, i.size)) = some (some Value.nilFunc, 1) := by kernel_rfl
theorem Inf114 : tInfo Try.prog 114 (Value.slice none 0 0) 1 24 := by unfold tInfo; kernel_rfl
theorem Sz114 : (Try.prog.info? 114).map (·.size) = some 1 := Inf114.size
theorem Zr114 : (Try.prog.info? 114).map (·.zero) = some (some (Value.slice none 0 0)) := by kernel_rfl
theorem ZS114 : (Try.prog.info? 114).map (fun i => (i.zero, i.size)) = some (some (Value.slice none 0 0), 1) := by kernel_rfl
theorem Inf115 : tInfo Try.prog 115 (Value.agg { toList := [Value.slice none 0 0, Value.int IntKind.i64 (0)] }) 2 32 := by unfold tInfo; kernel_rfl
theorem Sz115 : (Try.prog.info? 115).map (·.size) = some 2 := Inf115.size
theorem Zr115 : (Try.prog.info? 115).map (·.zero) = some (some (Value.agg { toList := [Value.slice none 0 0, Value.int IntKind.i64 (0)] })) := by kernel_rfl
theorem ZS115 : (Try.prog.info? 115).map (fun i => (i.zero, i.size)) = some (some (Value.agg { toList := [Value.slice none 0 0, Value.int IntKind.i64 (0)] }), 2) := by kernel_rfl
theorem Inf116 : tInfo Try.prog 116 (Value.agg { toList := [Value.slice none 0 0, Value.int IntKind.i64 (0)] }) 2 32 := by unfold tInfo; kernel_rfl
theorem Sz116 : (Try.prog.info? 116).map (·.size) = some 2 := Inf116.size
theorem Zr116 : (Try.prog.info? 116).map (·.zero) = some (some (Value.agg { toList := [Value.slice none 0 0, Value.int IntKind.i64 (0)] })) := by kernel_rfl
theorem ZS116 : (Try.prog.info? 116).map (fun i => (i.zero, i.size)) = some (some (Value.agg { toList := [Value.slice none 0 0, Value.int IntKind.i64 (0)] }), 2) := by kernel_rfl
theorem Inf117 : tInfo Try.prog 117 (Value.slice none 0 0) 1 24 := by unfold tInfo; kernel_rfl
theorem Sz117 : (Try.prog.info? 117).map (·.size) = some 1 := Inf117.size
theorem Zr117 : (Try.prog.info? 117).map (·.zero) = some (some (Value.slice none 0 0)) := by kernel_rfl
theorem ZS117 : (Try.prog.info? 117).map (fun i => (i.zero, i.size)) = some (some (Value.slice none 0 0), 1) := by kernel_rfl
theorem Inf118 : tInfo Try.prog 118 (Value.agg { toList := [Value.slice none 0 0, Value.int IntKind.i64 (0), Value.int IntKind.i64 (0), Value.slice none 0 0] }) 4 64 := by unfold tInfo; kernel_rfl
theorem Sz118 : (Try.prog.info? 118).map (·.size) = some 4 := Inf118.size
theorem Zr118 : (Try.prog.info? 118).map (·.zero) = some (some (Value.agg { toList := [Value.slice none 0 0, Value.int IntKind.i64 (0), Value.int IntKind.i64 (0), Value.slice none 0 0] })) := by kernel_rfl
theorem ZS118 : (Try.prog.info? 118).map (fun i => (i.zero, i.size)) = some (some (Value.agg { toList := [Value.slice none 0 0, Value.int IntKind.i64 (0), Value.int IntKind.i64 (0), Value.slice none 0 0] }), 4) := by kernel_rfl
theorem Inf119 : tInfo Try.prog 119 (Value.agg { toList := [Value.slice none 0 0, Value.int IntKind.i64 (0), Value.int IntKind.i64 (0), Value.slice none 0 0] }) 4 64 := by unfold tInfo; kernel_rfl
theorem Sz119 : (Try.prog.info? 119).map (·.size) = some 4 := Inf119.size
theorem Zr119 : (Try.prog.info? 119).map (·.zero) = some (some (Value.agg { toList := [Value.slice none 0 0, Value.int IntKind.i64 (0), Value.int IntKind.i64 (0), Value.slice none 0 0] })) := by kernel_rfl
theorem ZS119 : (Try.prog.info? 119).map (fun i => (i.zero, i.size)) = some (some (Value.agg { toList := [Value.slice none 0 0, Value.int IntKind.i64 (0), Value.int IntKind.i64 (0), Value.slice none 0 0] }), 4) := by kernel_rfl
theorem Inf120 : tInfo Try.prog 120 (Value.agg { toList := [Value.string { data := { toList := [] } }, Value.string { data := { toList := [] } }, Value.bool false] }) 3 40 := by unfold tInfo; kernel_rfl
theorem Sz120 : (Try.prog.info? 120).map (·.size) = some 3 := Inf120.size
theorem Zr120 : (Try.prog.info? 120).map (·.zero) = some (some (Value.agg { toList := [Value.string { data := { toList := [] } }, Value.string { data := { toList := [] } }, Value.bool false] })) := by kernel_rfl
theorem ZS120 : (Try.prog.info? 120).map (fun i => (i.zero, i.size)) = some (some (Value.agg { toList := [Value.string { data := { toList := [] } }, Value.string { data := { toList := [] } }, Value.bool false] }), 3) := by kernel_rfl
theorem Inf121 : tInfo Try.prog 121 (Value.agg { toList := [Value.string { data := { toList := [] } }, Value.string { data := { toList := [] } }, Value.bool false] }) 3 40 := by unfold tInfo; kernel_rfl
theorem Sz121 : (Try.prog.info? 121).map (·.size) = some 3 := Inf121.size
theorem Zr121 : (Try.prog.info? 121).map (·.zero) = some (some (Value.agg { toList := [Value.string { data := { toList := [] } }, Value.string { data := { toList := [] } }, Value.bool false] })) := by kernel_rfl
theorem ZS121 : (Try.prog.info? 121).map (fun i => (i.zero, i.size)) = some (some (Value.agg { toList := [Value.string { data := { toList := [] } }, Value.string { data := { toList := [] } }, Value.bool false] }), 3) := by kernel_rfl
theorem Inf122 : tInfo Try.prog 122 Value.nilFunc 1 8 := by unfold tInfo; kernel_rfl
theorem Sz122 : (Try.prog.info? 122).map (·.size) = some 1 := Inf122.size
theorem Zr122 : (Try.prog.info? 122).map (·.zero) = some (some Value.nilFunc) := by kernel_rfl
theorem ZS122 : (Try.prog.info? 122).map (fun i => (i.zero, i.size)) = some (some Value.nilFunc, 1) := by kernel_rfl
theorem Inf123 : tInfo Try.prog 123 (Value.slice none 0 0) 1 24 := by unfold tInfo; kernel_rfl
theorem Sz123 : (Try.prog.info? 123).map (·.size) = some 1 := Inf123.size
theorem Zr123 : (Try.prog.info? 123).map (·.zero) = some (some (Value.slice none 0 0)) := by kernel_rfl
theorem ZS123 : (Try.prog.info? 123).map (fun i => (i.zero, i.size)) = some (some (Value.slice none 0 0), 1) := by kernel_rfl
theorem Inf124 : tInfo Try.prog 124 (Value.slice none 0 0) 1 24 := by unfold tInfo; kernel_rfl
theorem Sz124 : (Try.prog.info? 124).map (·.size) = some 1 := Inf124.size
theorem Zr124 : (Try.prog.info? 124).map (·.zero) = some (some (Value.slice none 0 0)) := by kernel_rfl
theorem ZS124 : (Try.prog.info? 124).map (fun i => (i.zero, i.size)) = some (some (Value.slice none 0 0), 1) := by kernel_rfl
theorem Inf125 : tInfo Try.prog 125 (Value.agg { toList := [Value.int IntKind.i64 (0), Value.string { data := { toList := [] } }, Value.bool false] }) 3 32 := by unfold tInfo; kernel_rfl
theorem Sz125 : (Try.prog.info? 125).map (·.size) = some 3 := Inf125.size
theorem Zr125 : (Try.prog.info? 125).map (·.zero) = some (some (Value.agg { toList := [Value.int IntKind.i64 (0), Value.string { data := { toList := [] } }, Value.bool false] })) := by kernel_rfl
theorem ZS125 : (Try.prog.info? 125).map (fun i => (i.zero, i.size)) = some (some (Value.agg { toList := [Value.int IntKind.i64 (0), Value.string { data := { toList := [] } }, Value.bool false] }), 3) := by kernel_rfl
theorem Inf126 : tInfo Try.prog 126 (Value.agg { toList := [Value.int IntKind.i64 (0), Value.string { data := { toList := [] } }, Value.bool false] }) 3 32 := by unfold tInfo; kernel_rfl
theorem Sz126 : (Try.prog.info? 126).map (·.size) = some 3 := Inf126.size
theorem Zr126 : (Try.prog.info? 126).map (·.zero) = some (some (Value.agg { toList := [Value.int IntKind.i64 (0), Value.string { data := { toList := [] } }, Value.bool false] })) := by kernel_rfl
theorem ZS126 : (Try.prog.info? 126).map (fun i => (i.zero, i.size)) = some (some (Value.agg { toList := [Value.int IntKind.i64 (0), Value.string { data := { toList := [] } }, Value.bool false] }), 3) := by kernel_rfl
theorem Inf127 : tInfo Try.prog 127 Value.nilFunc 1 8 := by unfold tInfo; kernel_rfl
theorem Sz127 : (Try.prog.info? 127).map (·.size) = some 1 := Inf127.size
theorem Zr127 : (Try.prog.info? 127).map (·.zero) = some (some Value.nilFunc) := by kernel_rfl
theorem ZS127 : (Try.prog.info? 127).map (fun i => (i.zero, i.size)) = some (some Value.nilFunc, 1) := by kernel_rfl
theorem Inf128 : tInfo Try.prog 128 (Value.slice none 0 0) 1 24 := by unfold tInfo; kernel_rfl
theorem Sz128 : (Try.prog.info? 128).map (·.size) = some 1 := Inf128.size
theorem Zr128 : (Try.prog.info? 128).map (·.zero) = some (some (Value.slice none 0 0)) := by kernel_rfl
theorem ZS128 : (Try.prog.info? 128).map (fun i => (i.zero, i.size)) = some (some (Value.slice none 0 0), 1) := by kernel_rfl
theorem Inf129 : tInfo Try.prog 129 (Value.agg { toList := [Value.slice none 0 0, Value.int IntKind.i64 (0)] }) 2 32 := by unfold tInfo; kernel_rfl
theorem Sz129 : (Try.prog.info? 129).map (·.size) = some 2 := Inf129.size
theorem Zr129 : (Try.prog.info? 129).map (·.zero) = some (some (Value.agg { toList := [Value.slice none 0 0, Value.int IntKind.i64 (0)] })) := by kernel_rfl
theorem ZS129 : (Try.prog.info? 129).map (fun i => (i.zero, i.size)) = some (some (Value.agg { toList := [Value.slice none 0 0, Value.int IntKind.i64 (0)] }), 2) := by kernel_rfl
theorem Inf130 : tInfo Try.prog 130 (Value.agg { toList := [Value.slice none 0 0, Value.int IntKind.i64 (0)] }) 2 32 := by unfold tInfo; kernel_rfl
theorem Sz130 : (Try.prog.info? 130).map (·.size) = some 2 := Inf130.size
theorem Zr130 : (Try.prog.info? 130).map (·.zero) = some (some (Value.agg { toList := [Value.slice none 0 0, Value.int IntKind.i64 (0)] })) := by kernel_rfl
theorem ZS130 : (Try.prog.info? 130).map (fun i => (i.zero, i.size)) = some (some (Value.agg { toList := [Value.slice none 0 0, Value.int IntKind.i64 (0)] }), 2) := by kernel_rfl
theorem Inf131 : tInfo Try.prog 131 (Value.agg { toList := [Value.pointer none, Value.int IntKind.i64 (0), Value.int IntKind.i64 (0), Value.int IntKind.i64 (0), Value.int IntKind.i64 (0), Value.slice none 0 0, Value.int IntKind.i64 (0)] }) 7 72 := by unfold tInfo; kernel_rfl
theorem Sz131 : (Try.prog.info? 131).map (·.size) = some 7 := Inf131.size
theorem Zr131 : (Try.prog.info? 131).map (·.zero) = some (some (Value.agg { toList := [Value.pointer none, Value.int IntKind.i64 (0), Value.int IntKind.i64 (0), Value.int IntKind.i64 (0), Value.int IntKind.i64 (0), Value.slice none 0 0, Value.int IntKind.i64 (0)] })) := by kernel_rfl
theorem ZS131 : (Try.prog.info? 131).map (fun i => (i.zero, i.size)) = some (some (Value.agg { toList := [Value.pointer none, Value.int IntKind.i64 (0), Value.int IntKind.i64 (0), Value.int IntKind.i64 (0), Value.int IntKind.i64 (0), Value.slice none 0 0, Value.int IntKind.i64 (0)] }), 7) := by kernel_rfl
theorem Inf132 : tInfo Try.prog 132 (Value.agg { toList := [Value.pointer none, Value.int IntKind.i64 (0), Value.int IntKind.i64 (0), Value.int IntKind.i64 (0), Value.int IntKind.i64 (0), Value.slice none 0 0, Value.int IntKind.i64 (0)] }) 7 72 := by unfold tInfo; kernel_rfl
theorem Sz132 : (Try.prog.info? 132).map (·.size) = some 7 := Inf132.size
theorem Zr132 : (Try.prog.info? 132).map (·.zero) = some (some (Value.agg { toList := [Value.pointer none, Value.int IntKind.i64 (0), Value.int IntKind.i64 (0), Value.int IntKind.i64 (0), Value.int IntKind.i64 (0), Value.slice none 0 0, Value.int IntKind.i64 (0)] })) := by kernel_rfl
theorem ZS132 : (Try.prog.info? 132).map (fun i => (i.zero, i.size)) = some (some (Value.agg { toList := [Value.pointer none, Value.int IntKind.i64 (0), Value.int IntKind.i64 (0), Value.int IntKind.i64 (0), Value.int IntKind.i64 (0), Value.slice none 0 0, Value.int IntKind.i64 (0)] }), 7) := by kernel_rfl
theorem Inf133 : tInfo Try.prog 133 (Value.tuple { toList := [Value.string { data := { toList := [] } }, Value.bool false] }) 1 0 := by unfold tInfo; kernel_rfl
theorem Sz133 : (Try.prog.info? 133).map (·.size) = some 1 := Inf133.size
theorem Zr133 : (Try.prog.info? 133).map (·.zero) = some (some (Value.tuple { toList := [Value.string { data := { toList := [] } }, Value.bool false] })) := by kernel_rfl
theorem ZS133 : (Try.prog.info? 133).map (fun i => (i.zero, i.size)) = some (some (Value.tuple { toList := [Value.string { data := { toList := [] } }, Value.bool false] }), 1) := by kernel_rfl
theorem Inf134 : tInfo Try.prog 134 Value.nilFunc 1 8 := by unfold tInfo; kernel_rfl
theorem Sz134 : (Try.prog.info? 134).map (·.size) = some 1 := Inf134.size
theorem Zr134 : (Try.prog.info? 134).map (·.zero) = some (some Value.nilFunc) := by kernel_rfl
theorem ZS134 : (Try.prog.info? 134).map (fun i => (i.zero, i.size)) = some (some Value.nilFunc, 1) := by kernel_rfl
theorem Inf135 : tInfo Try.prog 135 Value.nilFunc 1 8 := by unfold tInfo; kernel_rfl
theorem Sz135 : (Try.prog.info? 135).map (·.size) = some 1 := Inf135.size
theorem Zr135 : (Try.prog.info? 135).map (·.zero) = some (some Value.nilFunc) := by kernel_rfl
theorem ZS135 : (Try.prog.info? 135).map (fun i => (i.zero, i.size)) = some (some Value.nilFunc, 1) := by kernel_rfl
theorem Inf136 : tInfo Try.prog 136 (Value.map none) 1 8 := by unfold tInfo; kernel_rfl
theorem Sz136 : (Try.prog.info? 136).map (·.size) = some 1 := Inf136.size
theorem Zr136 : (Try.prog.info? 136).map (·.zero) = some (some (Value.map none)) := by kernel_rfl
theorem ZS136 : (Try.prog.info? 136).map (fun i => (i.zero, i.size)) = some (some (Value.map none), 1) := by kernel_rfl
theorem Inf137 : tInfo Try.prog 137 Value.nilFunc 1 8 := by unfold tInfo; kernel_rfl
theorem Sz137 : (Try.prog.info? 137).map (·.size) = some 1 := Inf137.size
theorem Zr137 : (Try.prog.info? 137).map (·.zero) = some (some Value.nilFunc) := by kernel_rfl
theorem ZS137 : (Try.prog.info? 137).map (fun i => (i.zero, i.size)) = some (some Value.nilFunc, 1) := by kernel_rfl
theorem Inf138 : tInfo Try.prog 138 Value.nilFunc 1 8 := by unfold tInfo; kernel_rfl
theorem Sz138 : (Try.prog.info? 138).map (·.size) = some 1 := Inf138.size
theorem Zr138 : (Try.prog.info? 138).map (·.zero) = some (some Value.nilFunc) := by kernel_rfl
theorem ZS138 : (Try.prog.info? 138).map (fun i => (i.zero, i.size)) = some (some Value.nilFunc, 1) := by kernel_rfl
theorem Inf139 : tInfo Try.prog 139 Value.nilFunc 1 8 := by unfold tInfo; kernel_rfl
theorem Sz139 : (Try.prog.info? 139).map (·.size) = some 1 := Inf139.size
theorem Zr139 : (Try.prog.info? 139).map (·.zero) = some (some Value.nilFunc) := by kernel_rfl
theorem ZS139 : (Try.prog.info? 139).map (fun i => (i.zero, i.size)) = some (some Value.nilFunc, 1) := by kernel_rfl
theorem Inf140 : tInfo Try.prog 140 Value.nilFunc 1 8 := by unfold tInfo; kernel_rfl
theorem Sz140 : (Try.prog.info? 140).map (·.size) = some 1 := Inf140.size
theorem Zr140 : (Try.prog.info? 140).map (·.zero) = some (some Value.nilFunc) := by kernel_rfl
theorem ZS140 : (Try.prog.info? 140).map (fun i => (i.zero, i.size)) = some (some Value.nilFunc, 1) := by kernel_rfl
theorem Inf141 : tInfo Try.prog 141 Value.nilFunc 1 8 := by unfold tInfo; kernel_rfl
theorem Sz141 : (Try.prog.info? 141).map (·.size) = some 1 := Inf141.size
theorem Zr141 : (Try.prog.info? 141).map (·.zero) = some (some Value.nilFunc) := by kernel_rfl
theorem ZS141 : (Try.prog.info? 141).map (fun i => (i.zero, i.size)) = some (some Value.nilFunc, 1) := by kernel_rfl
theorem Inf142 : tInfo Try.prog 142 (Value.pointer none) 1 8 := by unfold tInfo; kernel_rfl
theorem Sz142 : (Try.prog.info? 142).map (·.size) = some 1 := Inf142.size
theorem Zr142 : (Try.prog.info? 142).map (·.zero) = some (some (Value.pointer none)) := by kernel_rfl
theorem ZS142 : (Try.prog.info? 142).map (fun i => (i.zero, i.size)) = some (some (Value.pointer none), 1) := by kernel_rfl
theorem Inf143 : tInfo Try.prog 143 (Value.agg { toList := [Value.pointer none, Value.int IntKind.i64 (0)] }) 2 16 := by unfold tInfo; kernel_rfl
theorem Sz143 : (Try.prog.info? 143).map (·.size) = some 2 := Inf143.size
theorem Zr143 : (Try.prog.info? 143).map (·.zero) = some (some (Value.agg { toList := [Value.pointer none, Value.int IntKind.i64 (0)] })) := by kernel_rfl
theorem ZS143 : (Try.prog.info? 143).map (fun i => (i.zero, i.size)) = some (some (Value.agg { toList := [Value.pointer none, Value.int IntKind.i64 (0)] }), 2) := by kernel_rfl
theorem Inf144 : tInfo Try.prog 144 (Value.agg { toList := [Value.pointer none, Value.int IntKind.i64 (0)] }) 2 16 := by unfold tInfo; kernel_rfl
theorem Sz144 : (Try.prog.info? 144).map (·.size) = some 2 := Inf144.size
theorem Zr144 : (Try.prog.info? 144).map (·.zero) = some (some (Value.agg { toList := [Value.pointer none, Value.int IntKind.i64 (0)] })) := by kernel_rfl
theorem ZS144 : (Try.prog.info? 144).map (fun i => (i.zero, i.size)) = some (some (Value.agg { toList := [Value.pointer none, Value.int IntKind.i64 (0)] }), 2) := by kernel_rfl
theorem Inf145 : tInfo Try.prog 145 Value.nilFunc 1 8 := by unfold tInfo; kernel_rfl
theorem Sz145 : (Try.prog.info? 145).map (·.size) = some 1 := Inf145.size
theorem Zr145 : (Try.prog.info? 145).map (·.zero) = some (some Value.nilFunc) := by kernel_rfl
theorem ZS145 : (Try.prog.info? 145).map (fun i => (i.zero, i.size)) = some (some Value.nilFunc, 1) := by kernel_rfl
theorem Inf146 : tInfo Try.prog 146 (Value.tuple { toList := [Value.int IntKind.i64 (0), Value.bool false] }) 1 0 := by unfold tInfo; kernel_rfl
theorem Sz146 : (Try.prog.info? 146).map (·.size) = some 1 := Inf146.size
theorem Zr146 : (Try.prog.info? 146).map (·.zero) = some (some (Value.tuple { toList := [Value.int IntKind.i64 (0), Value.bool false] })) := by kernel_rfl
theorem ZS146 : (Try.prog.info? 146).map (fun i => (i.zero, i.size)) = some (some (Value.tuple { toList := [Value.int IntKind.i64 (0), Value.bool false] }), 1) := by kernel_rfl
theorem Inf147 : tInfo Try.prog 147 Value.nilFunc 1 8 := by unfold tInfo; kernel_rfl
theorem Sz147 : (Try.prog.info? 147).map (·.size) = some 1 := Inf147.size
theorem Zr147 : (Try.prog.info? 147).map (·.zero) = some (some Value.nilFunc) := by kernel_rfl
theorem ZS147 : (Try.prog.info? 147).map (fun i => (i.zero, i.size)) = some (some Value.nilFunc, 1) := by kernel_rfl
theorem Inf148 : tInfo Try.prog 148 Value.nilFunc 1 8 := by unfold tInfo; kernel_rfl
theorem Sz148 : (Try.prog.info? 148).map (·.size) = some 1 := Inf148.size
theorem Zr148 : (Try.prog.info? 148).map (·.zero) = some (some Value.nilFunc) := by kernel_rfl
theorem ZS148 : (Try.prog.info? 148).map (fun i => (i.zero, i.size)) = some (some Value.nilFunc, 1) := by kernel_rfl
theorem Inf149 : tInfo Try.prog 149 (Value.agg { toList := [Value.string { data := { toList := [] } }, Value.bool false] }) 2 24 := by unfold tInfo; kernel_rfl
theorem Sz149 : (Try.prog.info? 149).map (·.size) = some 2 := Inf149.size
theorem Zr149 : (Try.prog.info? 149).map (·.zero) = some (some (Value.agg { toList := [Value.string { data := { toList := [] } }, Value.bool false] })) := by kernel_rfl
theorem ZS149 : (Try.prog.info? 149).map (fun i => (i.zero, i.size)) = some (some (Value.agg { toList := [Value.string { data := { toList := [] } }, Value.bool false] }), 2) := by kernel_rfl
theorem Inf150 : tInfo Try.prog 150 (Value.agg { toList := [Value.string { data := { toList := [] } }, Value.bool false] }) 2 24 := by unfold tInfo; kernel_rfl
theorem Sz150 : (Try.prog.info? 150).map (·.size) = some 2 := Inf150.size
theorem Zr150 : (Try.prog.info? 150).map (·.zero) = some (some (Value.agg { toList := [Value.string { data := { toList := [] } }, Value.bool false] })) := by kernel_rfl
theorem ZS150 : (Try.prog.info? 150).map (fun i => (i.zero, i.size)) = some (some (Value.agg { toList := [Value.string { data := { toList := [] } }, Value.bool false] }), 2) := by kernel_rfl
theorem Inf151 : tInfo Try.prog 151 (Value.int IntKind.u64 (0)) 1 8 := by unfold tInfo; kernel_rfl
theorem Sz151 : (Try.prog.info? 151).map (·.size) = some 1 := Inf151.size
theorem Zr151 : (Try.prog.info? 151).map (·.zero) = some (some (Value.int IntKind.u64 (0))) := by kernel_rfl
theorem ZS151 : (Try.prog.info? 151).map (fun i => (i.zero, i.size)) = some (some (Value.int IntKind.u64 (0)), 1) := by kernel_rfl
theorem Inf152 : tInfo Try.prog 152 Value.nilFunc 1 8 := by unfold tInfo; kernel_rfl
theorem Sz152 : (Try.prog.info? 152).map (·.size) = some 1 := Inf152.size
theorem Zr152 : (Try.prog.info? 152).map (·.zero) = some (some Value.nilFunc) := by kernel_rfl
theorem ZS152 : (Try.prog.info? 152).map (fun i => (i.zero, i.size)) = some (some Value.nilFunc, 1) := by kernel_rfl
theorem Inf153 : tInfo Try.prog 153 Value.nilFunc 1 8 := by unfold tInfo; kernel_rfl
theorem Sz153 : (Try.prog.info? 153).map (·.size) = some 1 := Inf153.size
theorem Zr153 : (Try.prog.info? 153).map (·.zero) = some (some Value.nilFunc) := by kernel_rfl
theorem ZS153 : (Try.prog.info? 153).map (fun i => (i.zero, i.size)) = some (some Value.nilFunc, 1) := by kernel_rfl
theorem Inf154 : tInfo Try.prog 154 Value.nilFunc 1 8 := by unfold tInfo; kernel_rfl
theorem Sz154 : (Try.prog.info? 154).map (·.size) = some 1 := Inf154.size
theorem Zr154 : (Try.prog.info? 154).map (·.zero) = some (some Value.nilFunc) := by kernel_rfl
theorem ZS154 : (Try.prog.info? 154).map (fun i => (i.zero, i.size)) = some (some Value.nilFunc, 1) := by kernel_rfl
theorem Inf155 : tInfo Try.prog 155 (Value.slice none 0 0) 1 24 := by unfold tInfo; kernel_rfl
theorem Sz155 : (Try.prog.info? 155).map (·.size) = some 1 := Inf155.size
theorem Zr155 : (Try.prog.info? 155).map (·.zero) = some (some (Value.slice none 0 0)) := by kernel_rfl
theorem ZS155 : (Try.prog.info? 155).map (fun i => (i.zero, i.size)) = some (some (Value.slice none 0 0), 1) := by kernel_rfl
theorem Inf156 : tInfo Try.prog 156 (Value.pointer none) 1 8 := by unfold tInfo; kernel_rfl
theorem Sz156 : (Try.prog.info? 156).map (·.size) = some 1 := Inf156.size
theorem Zr156 : (Try.prog.info? 156).map (·.zero) = some (some (Value.pointer none)) := by kernel_rfl
theorem ZS156 : (Try.prog.info? 156).map (fun i => (i.zero, i.size)) = some (some (Value.pointer none), 1) := by kernel_rfl
theorem Inf157 : tInfo Try.prog 157 (Value.agg { toList := [Value.pointer none, Value.slice none 0 0] }) 2 32 := by unfold tInfo; kernel_rfl
theorem Sz157 : (Try.prog.info? 157).map (·.size) = some 2 := Inf157.size
theorem Zr157 : (Try.prog.info? 157).map (·.zero) = some (some (Value.agg { toList := [Value.pointer none, Value.slice none 0 0] })) := by kernel_rfl
theorem ZS157 : (Try.prog.info? 157).map (fun i => (i.zero, i.size)) = some (some (Value.agg { toList := [Value.pointer none, Value.slice none 0 0] }), 2) := by kernel_rfl
theorem Inf158 : tInfo Try.prog 158 (Value.agg { toList := [Value.pointer none, Value.slice none 0 0] }) 2 32 := by unfold tInfo; kernel_rfl
theorem Sz158 : (Try.prog.info? 158).map (·.size) = some 2 := Inf158.size
theorem Zr158 : (Try.prog.info? 158).map (·.zero) = some (some (Value.agg { toList := [Value.pointer none, Value.slice none 0 0] })) := by kernel_rfl
theorem ZS158 : (Try.prog.info? 158).map (fun i => (i.zero, i.size)) = some (some (Value.agg { toList := [Value.pointer none, Value.slice none 0 0] }), 2) := by kernel_rfl
theorem Inf159 : tInfo Try.prog 159 Value.nilIface 1 16 := by unfold tInfo; kernel_rfl
theorem Sz159 : (Try.prog.info? 159).map (·.size) = some 1 := Inf159.size
theorem Zr159 : (Try.prog.info? 159).map (·.zero) = some (some Value.nilIface) := by kernel_rfl
theorem ZS159 : (Try.prog.info? 159).map (fun i => (i.zero, i.size)) = some (some Value.nilIface, 1) := by kernel_rfl
theorem Inf160 : tInfo Try.prog 160 Value.nilIface 1 16 := by unfold tInfo; kernel_rfl
theorem Sz160 : (Try.prog.info? 160).map (·.size) = some 1 := Inf160.size
theorem Zr160 : (Try.prog.info? 160).map (·.zero) = some (some Value.nilIface) := by kernel_rfl
theorem ZS160 : (Try.prog.info? 160).map (fun i => (i.zero, i.size)) = some (some Value.nilIface, 1) := by kernel_rfl
theorem Inf161 : tInfo Try.prog 161 Value.nilFunc 1 8 := by unfold tInfo; kernel_rfl
theorem Sz161 : (Try.prog.info? 161).map (·.size) = some 1 := Inf161.size
theorem Zr161 : (Try.prog.info? 161).map (·.zero) = some (some Value.nilFunc) := by kernel_rfl
theorem ZS161 : (Try.prog.info? 161).map (fun i => (i.zero, i.size)) = some (some Value.nilFunc, 1) := by kernel_rfl
theorem Inf162 : tInfo Try.prog 162 (Value.pointer none) 1 8 := by unfold tInfo; kernel_rfl
theorem Sz162 : (Try.prog.info? 162).map (·.size) = some 1 := Inf162.size
theorem Zr162 : (Try.prog.info? 162).map (·.zero) = some (some (Value.pointer none)) := by kernel_rfl
theorem ZS162 : (Try.prog.info? 162).map (fun i => (i.zero, i.size)) = some (some (Value.pointer none), 1) := by kernel_rfl
theorem Inf163 : tInfo Try.prog 163 (Value.tuple { toList := [Value.int IntKind.i64 (0), Value.int IntKind.i64 (0), Value.bool false] }) 1 0 := by unfold tInfo; kernel_rfl
theorem Sz163 : (Try.prog.info? 163).map (·.size) = some 1 := Inf163.size
theorem Zr163 : (Try.prog.info? 163).map (·.zero) = some (some (Value.tuple { toList := [Value.int IntKind.i64 (0), Value.int IntKind.i64 (0), Value.bool false] })) := by kernel_rfl
theorem ZS163 : (Try.prog.info? 163).map (fun i => (i.zero, i.size)) = some (some (Value.tuple { toList := [Value.int IntKind.i64 (0), Value.int IntKind.i64 (0), Value.bool false] }), 1) := by kernel_rfl
theorem Inf164 : tInfo Try.prog 164 Value.nilFunc 1 8 := by unfold tInfo; kernel_rfl
theorem Sz164 : (Try.prog.info? 164).map (·.size) = some 1 := Inf164.size
theorem Zr164 : (Try.prog.info? 164).map (·.zero) = some (some Value.nilFunc) := by kernel_rfl
theorem ZS164 : (Try.prog.info? 164).map (fun i => (i.zero, i.size)) = some (some Value.nilFunc, 1) := by kernel_rfl
theorem Inf165 : tInfo Try.prog 165 (Value.agg { toList := [Value.string { data := { toList := [] } }, Value.slice none 0 0] }) 2 40 := by unfold tInfo; kernel_rfl
theorem Sz165 : (Try.prog.info? 165).map (·.size) = some 2 := Inf165.size
theorem Zr165 : (Try.prog.info? 165).map (·.zero) = some (some (Value.agg { toList := [Value.string { data := { toList := [] } }, Value.slice none 0 0] })) := by kernel_rfl
theorem ZS165 : (Try.prog.info? 165).map (fun i => (i.zero, i.size)) = some (some (Value.agg { toList := [Value.string { data := { toList := [] } }, Value.slice none 0 0] }), 2) := by kernel_rfl
theorem Inf166 : tInfo Try.prog 166 (Value.agg { toList := [Value.string { data := { toList := [] } }, Value.slice none 0 0] }) 2 40 := by unfold tInfo; kernel_rfl
theorem Sz166 : (Try.prog.info? 166).map (·.size) = some 2 := Inf166.size
theorem Zr166 : (Try.prog.info? 166).map (·.zero) = some (some (Value.agg { toList := [Value.string { data := { toList := [] } }, Value.slice none 0 0] })) := by kernel_rfl
theorem ZS166 : (Try.prog.info? 166).map (fun i => (i.zero, i.size)) = some (some (Value.agg { toList := [Value.string { data := { toList := [] } }, Value.slice none 0 0] }), 2) := by kernel_rfl
theorem Inf167 : tInfo Try.prog 167 (Value.slice none 0 0) 1 24 := by unfold tInfo; kernel_rfl
theorem Sz167 : (Try.prog.info? 167).map (·.size) = some 1 := Inf167.size
theorem Zr167 : (Try.prog.info? 167).map (·.zero) = some (some (Value.slice none 0 0)) := by kernel_rfl
theorem ZS167 : (Try.prog.info? 167).map (fun i => (i.zero, i.size)) = some (some (Value.slice none 0 0), 1) := by kernel_rfl
theorem Inf168 : tInfo Try.prog 168 Value.nilFunc 1 8 := by unfold tInfo; kernel_rfl
theorem Sz168 : (Try.prog.info? 168).map (·.size) = some 1 := Inf168.size
theorem Zr168 : (Try.prog.info? 168).map (·.zero) = some (some Value.nilFunc) := by kernel_rfl
theorem ZS168 : (Try.prog.info? 168).map (fun i => (i.zero, i.size)) = some (some Value.nilFunc, 1) := by kernel_rfl
theorem Inf169 : tInfo Try.prog 169 (Value.tuple { toList := [Value.slice none 0 0, Value.slice none 0 0] }) 1 0 := by unfold tInfo; kernel_rfl
theorem Sz169 : (Try.prog.info? 169).map (·.size) = some 1 := Inf169.size
theorem Zr169 : (Try.prog.info? 169).map (·.zero) = some (some (Value.tuple { toList := [Value.slice none 0 0, Value.slice none 0 0] })) := by kernel_rfl
theorem ZS169 : (Try.prog.info? 169).map (fun i => (i.zero, i.size)) = some (some (Value.tuple { toList := [Value.slice none 0 0, Value.slice none 0 0] }), 1) := by kernel_rfl
theorem Inf170 : tInfo Try.prog 170 Value.nilFunc 1 8 := by unfold tInfo; kernel_rfl
theorem Sz170 : (Try.prog.info? 170).map (·.size) = some 1 := Inf170.size
theorem Zr170 : (Try.prog.info? 170).map (·.zero) = some (some Value.nilFunc) := by kernel_rfl
theorem ZS170 : (Try.prog.info? 170).map (fun i => (i.zero, i.size)) = some (some Value.nilFunc, 1) := by kernel_rfl
theorem Inf171 : tInfo Try.prog 171 Value.nilFunc 1 8 := by unfold tInfo; kernel_rfl
theorem Sz171 : (Try.prog.info? 171).map (·.size) = some 1 := Inf171.size
theorem Zr171 : (Try.prog.info? 171).map (·.zero) = some (some Value.nilFunc) := by kernel_rfl
theorem ZS171 : (Try.prog.info? 171).map (fun i => (i.zero, i.size)) = some (some Value.nilFunc, 1) := by kernel_rfl
theorem Inf172 : tInfo Try.prog 172 (Value.tuple { toList := [Value.agg { toList := [Value.string { data := { toList := [] } }, Value.string { data := { toList := [] } }, Value.bool false] }, Value.bool false] }) 1 0 := by unfold tInfo; kernel_rfl
theorem Sz172 : (Try.prog.info? 172).map (·.size) = some 1 := Inf172.size
theorem Zr172 : (Try.prog.info? 172).map (·.zero) = some (some (Value.tuple { toList := [Value.agg { toList := [Value.string { data := { toList := [] } }, Value.string { data := { toList := [] } }, Value.bool false] }, Value.bool false] })) := by kernel_rfl
theorem ZS172 : (Try.prog.info? 172).map (fun i => (i.zero, i.size)) = some (some (Value.tuple { toList := [Value.agg { toList := [Value.string { data := { toList := [] } }, Value.string { data := { toList := [] } }, Value.bool false] }, Value.bool false] }), 1) := by kernel_rfl
theorem Inf173 : tInfo Try.prog 173 Value.nilFunc 1 8 := by unfold tInfo; kernel_rfl
theorem Sz173 : (Try.prog.info? 173).map (·.size) = some 1 := Inf173.size
theorem Zr173 : (Try.prog.info? 173).map (·.zero) = some (some Value.nilFunc) := by kernel_rfl
theorem ZS173 : (Try.prog.info? 173).map (fun i => (i.zero, i.size)) = some (some Value.nilFunc, 1) := by kernel_rfl
theorem Inf174 : tInfo Try.prog 174 Value.nilFunc 1 8 := by unfold tInfo; kernel_rfl
theorem Sz174 : (Try.prog.info? 174).map (·.size) = some 1 := Inf174.size
theorem Zr174 : (Try.prog.info? 174).map (·.zero) = some (some Value.nilFunc) := by kernel_rfl
theorem ZS174 : (Try.prog.info? 174).map (fun i => (i.zero, i.size)) = some (some Value.nilFunc, 1) := by kernel_rfl
theorem Inf175 : tInfo Try.prog 175 Value.nilFunc 1 8 := by unfold tInfo; kernel_rfl
theorem Sz175 : (Try.prog.info? 175).map (·.size) = some 1 := Inf175.size
theorem Zr175 : (Try.prog.info? 175).map (·.zero) = some (some Value.nilFunc) := by kernel_rfl
theorem ZS175 : (Try.prog.info? 175).map (fun i => (i.zero, i.size)) = some (some Value.nilFunc, 1) := by kernel_rfl
theorem Inf176 : tInfo Try.prog 176 (Value.pointer none) 1 8 := by unfold tInfo; kernel_rfl
theorem Sz176 : (Try.prog.info? 176).map (·.size) = some 1 := Inf176.size
theorem Zr176 : (Try.prog.info? 176).map (·.zero) = some (some (Value.pointer none)) := by kernel_rfl
theorem ZS176 : (Try.prog.info? 176).map (fun i => (i.zero, i.size)) = some (some (Value.pointer none), 1) := by kernel_rfl
theorem Inf177 : tInfo Try.prog 177 Value.nilFunc 1 8 := by unfold tInfo; kernel_rfl
theorem Sz177 : (Try.prog.info? 177).map (·.size) = some 1 := Inf177.size
theorem Zr177 : (Try.prog.info? 177).map (·.zero) = some (some Value.nilFunc) := by kernel_rfl
theorem ZS177 : (Try.prog.info? 177).map (fun i => (i.zero, i.size)) = some (some Value.nilFunc, 1) := by kernel_rfl
theorem Inf178 : tInfo Try.prog 178 (Value.slice none 0 0) 1 24 := by unfold tInfo; kernel_rfl
theorem Sz178 : (Try.prog.info? 178).map (·.size) = some 1 := Inf178.size
theorem Zr178 : (Try.prog.info? 178).map (·.zero) = some (some (Value.slice none 0 0)) := by kernel_rfl
theorem ZS178 : (Try.prog.info? 178).map (fun i => (i.zero, i.size)) = some (some (Value.slice none 0 0), 1) := by kernel_rfl
theorem Inf179 : tInfo Try.prog 179 (Value.agg { toList := [Value.string { data := { toList := [] } }, Value.string { data := { toList := [] } }, Value.string { data := { toList := [] } }, Value.bool false] }) 4 56 := by unfold tInfo; kernel_rfl
theorem Sz179 : (Try.prog.info? 179).map (·.size) = some 4 := Inf179.size
theorem Zr179 : (Try.prog.info? 179).map (·.zero) = some (some (Value.agg { toList := [Value.string { data := { toList := [] } }, Value.string { data := { toList := [] } }, Value.string { data := { toList := [] } }, Value.bool false] })) := by kernel_rfl
theorem ZS179 : (Try.prog.info? 179).map (fun i => (i.zero, i.size)) = some (some (Value.agg { toList := [Value.string { data := { toList := [] } }, Value.string { data := { toList := [] } }, Value.string { data := { toList := [] } }, Value.bool false] }), 4) := by kernel_rfl
theorem Inf180 : tInfo Try.prog 180 (Value.agg { toList := [Value.string { data := { toList := [] } }, Value.string { data := { toList := [] } }, Value.string { data := { toList := [] } }, Value.bool false] }) 4 56 := by unfold tInfo; kernel_rfl
theorem Sz180 : (Try.prog.info? 180).map (·.size) = some 4 := Inf180.size
theorem Zr180 : (Try.prog.info? 180).map (·.zero) = some (some (Value.agg { toList := [Value.string { data := { toList := [] } }, Value.string { data := { toList := [] } }, Value.string { data := { toList := [] } }, Value.bool false] })) := by kernel_rfl
theorem ZS180 : (Try.prog.info? 180).map (fun i => (i.zero, i.size)) = some (some (Value.agg { toList := [Value.string { data := { toList := [] } }, Value.string { data := { toList := [] } }, Value.string { data := { toList := [] } }, Value.bool false] }), 4) := by kernel_rfl
theorem Inf181 : tInfo Try.prog 181 Value.nilFunc 1 8 := by unfold tInfo; kernel_rfl
theorem Sz181 : (Try.prog.info? 181).map (·.size) = some 1 := Inf181.size
theorem Zr181 : (Try.prog.info? 181).map (·.zero) = some (some Value.nilFunc) := by kernel_rfl
theorem ZS181 : (Try.prog.info? 181).map (fun i => (i.zero, i.size)) = some (some Value.nilFunc, 1) := by kernel_rfl
theorem Inf182 : tInfo Try.prog 182 Value.nilFunc 1 8 := by unfold tInfo; kernel_rfl
theorem Sz182 : (Try.prog.info? 182).map (·.size) = some 1 := Inf182.size
theorem Zr182 : (Try.prog.info? 182).map (·.zero) = some (some Value.nilFunc) := by kernel_rfl
theorem ZS182 : (Try.prog.info? 182).map (fun i => (i.zero, i.size)) = some (some Value.nilFunc, 1) := by kernel_rfl
theorem Inf183 : tInfo Try.prog 183 Value.nilFunc 1 8 := by unfold tInfo; kernel_rfl
theorem Sz183 : (Try.prog.info? 183).map (·.size) = some 1 := Inf183.size
theorem Zr183 : (Try.prog.info? 183).map (·.zero) = some (some Value.nilFunc) := by kernel_rfl
theorem ZS183 : (Try.prog.info? 183).map (fun i => (i.zero, i.size)) = some (some Value.nilFunc, 1) := by kernel_rfl
theorem Inf184 : tInfo Try.prog 184 Value.nilFunc 1 8 := by unfold tInfo; kernel_rfl
theorem Sz184 : (Try.prog.info? 184).map (·.size) = some 1 := Inf184.size
theorem Zr184 : (Try.prog.info? 184).map (·.zero) = some (some Value.nilFunc) := by kernel_rfl
theorem ZS184 : (Try.prog.info? 184).map (fun i => (i.zero, i.size)) = some (some Value.nilFunc, 1) := by kernel_rfl
theorem Inf185 : tInfo Try.prog 185 Value.nilFunc 1 8 := by unfold tInfo; kernel_rfl
theorem Sz185 : (Try.prog.info? 185).map (·.size) = some 1 := Inf185.size
theorem Zr185 : (Try.prog.info? 185).map (·.zero) = some (some Value.nilFunc) := by kernel_rfl
theorem ZS185 : (Try.prog.info? 185).map (fun i => (i.zero, i.size)) = some (some Value.nilFunc, 1) := by kernel_rfl
theorem Inf186 : tInfo Try.prog 186 (Value.pointer none) 1 8 := by unfold tInfo; kernel_rfl
theorem Sz186 : (Try.prog.info? 186).map (·.size) = some 1 := Inf186.size
theorem Zr186 : (Try.prog.info? 186).map (·.zero) = some (some (Value.pointer none)) := by kernel_rfl
theorem ZS186 : (Try.prog.info? 186).map (fun i => (i.zero, i.size)) = some (some (Value.pointer none), 1) := by kernel_rfl
theorem Inf187 : tInfo Try.prog 187 Value.nilFunc 1 8 := by unfold tInfo; kernel_rfl
theorem Sz187 : (Try.prog.info? 187).map (·.size) = some 1 := Inf187.size
theorem Zr187 : (Try.prog.info? 187).map (·.zero) = some (some Value.nilFunc) := by kernel_rfl
theorem ZS187 : (Try.prog.info? 187).map (fun i => (i.zero, i.size)) = some (some Value.nilFunc, 1) := by kernel_rfl
theorem Inf188 : tInfo Try.prog 188 Value.nilFunc 1 8 := by unfold tInfo; kernel_rfl
theorem Sz188 : (Try.prog.info? 188).map (·.size) = some 1 := Inf188.size
theorem Zr188 : (Try.prog.info? 188).map (·.zero) = some (some Value.nilFunc) := by kernel_rfl
theorem ZS188 : (Try.prog.info? 188).map (fun i => (i.zero, i.size)) = some (some Value.nilFunc, 1) := by kernel_rfl
theorem Inf189 : tInfo Try.prog 189 Value.nilFunc 1 8 := by unfold tInfo; kernel_rfl
theorem Sz189 : (Try.prog.info? 189).map (·.size) = some 1 := Inf189.size
theorem Zr189 : (Try.prog.info? 189).map (·.zero) = some (some Value.nilFunc) := by kernel_rfl
theorem ZS189 : (Try.prog.info? 189).map (fun i => (i.zero, i.size)) = some (some Value.nilFunc, 1) := by kernel_rfl
theorem Inf190 : tInfo Try.prog 190 Value.nilFunc 1 8 := by unfold tInfo; kernel_rfl
theorem Sz190 : (Try.prog.info? 190).map (·.size) = some 1 := Inf190.size
theorem Zr190 : (Try.prog.info? 190).map (·.zero) = some (some Value.nilFunc) := by kernel_rfl
theorem ZS190 : (Try.prog.info? 190).map (fun i => (i.zero, i.size)) = some (some Value.nilFunc, 1) := by kernel_rfl
theorem Inf191 : tInfo Try.prog 191 Value.nilFunc 1 8 := by unfold tInfo; kernel_rfl
theorem Sz191 : (Try.prog.info? 191).map (·.size) = some 1 := Inf191.size
theorem Zr191 : (Try.prog.info? 191).map (·.zero) = some (some Value.nilFunc) := by kernel_rfl
theorem ZS191 : (Try.prog.info? 191).map (fun i => (i.zero, i.size)) = some (some Value.nilFunc, 1) := by kernel_rfl
theorem Inf192 : tInfo Try.prog 192 Value.nilFunc 1 8 := by unfold tInfo; kernel_rfl
theorem Sz192 : (Try.prog.info? 192).map (·.size) = some 1 := Inf192.size
theorem Zr192 : (Try.prog.info? 192).map (·.zero) = some (some Value.nilFunc) := by kernel_rfl
theorem ZS192 : (Try.prog.info? 192).map (fun i => (i.zero, i.size)) = some (some Value.nilFunc, 1) := by kernel_rfl
theorem Inf193 : tInfo Try.prog 193 Value.nilFunc 1 8 := by unfold tInfo; kernel_rfl
theorem Sz193 : (Try.prog.info? 193).map (·.size) = some 1 := Inf193.size
theorem Zr193 : (Try.prog.info? 193).map (·.zero) = some (some Value.nilFunc) := by kernel_rfl
theorem ZS193 : (Try.prog.info? 193).map (fun i => (i.zero, i.size)) = some (some Value.nilFunc, 1) := by kernel_rfl
theorem Inf194 : tInfo Try.prog 194 Value.nilFunc 1 8 := by unfold tInfo; kernel_rfl
theorem Sz194 : (Try.prog.info? 194).map (·.size) = some 1 := Inf194.size
theorem Zr194 : (Try.prog.info? 194).map (·.zero) = some (some Value.nilFunc) := by kernel_rfl
theorem ZS194 : (Try.prog.info? 194).map (fun i => (i.zero, i.size)) = some (some Value.nilFunc, 1) := by kernel_rfl
theorem Inf195 : tInfo Try.prog 195 (Value.tuple { toList := [Value.slice none 0 0, Value.bool false] }) 1 0 := by unfold tInfo; kernel_rfl
theorem Sz195 : (Try.prog.info? 195).map (·.size) = some 1 := Inf195.size
theorem Zr195 : (Try.prog.info? 195).map (·.zero) = some (some (Value.tuple { toList := [Value.slice none 0 0, Value.bool false] })) := by kernel_rfl
theorem ZS195 : (Try.prog.info? 195).map (fun i => (i.zero, i.size)) = some (some (Value.tuple { toList := [Value.slice none 0 0, Value.bool false] }), 1) := by kernel_rfl
theorem Inf196 : tInfo Try.prog 196 Value.nilFunc 1 8 := by unfold tInfo; kernel_rfl
theorem Sz196 : (Try.prog.info? 196).map (·.size) = some 1 := Inf196.size
theorem Zr196 : (Try.prog.info? 196).map (·.zero) = some (some Value.nilFunc) := by kernel_rfl
theorem ZS196 : (Try.prog.info? 196).map (fun i => (i.zero, i.size)) = some (some Value.nilFunc, 1) := by kernel_rfl
theorem Inf197 : tInfo Try.prog 197 Value.nilFunc 1 8 := by unfold tInfo; kernel_rfl
theorem Sz197 : (Try.prog.info? 197).map (·.size) = some 1 := Inf197.size
theorem Zr197 : (Try.prog.info? 197).map (·.zero) = some (some Value.nilFunc) := by kernel_rfl
theorem ZS197 : (Try.prog.info? 197).map (fun i => (i.zero, i.size)) = some (some Value.nilFunc, 1) := by kernel_rfl
theorem Inf198 : tInfo Try.prog 198 Value.nilFunc 1 8 := by unfold tInfo; kernel_rfl
theorem Sz198 : (Try.prog.info? 198).map (·.size) = some 1 := Inf198.size
theorem Zr198 : (Try.prog.info? 198).map (·.zero) = some (some Value.nilFunc) := by kernel_rfl
theorem ZS198 : (Try.prog.info? 198).map (fun i => (i.zero, i.size)) = some (some Value.nilFunc, 1) := by kernel_rfl
theorem Inf199 : tInfo Try.prog 199 Value.nilFunc 1 8 := by unfold tInfo; kernel_rfl
theorem Sz199 : (Try.prog.info? 199).map (·.size) = some 1 := Inf199.size
theorem Zr199 : (Try.prog.info? 199).map (·.zero) = some (some Value.nilFunc) := by kernel_rfl
theorem ZS199 : (Try.prog.info? 199).map (fun i => (i.zero, i.size)) = some (some Value.nilFunc, 1) := by kernel_rfl
theorem Inf200 : tInfo Try.prog 200 Value.nilFunc 1 8 := by unfold tInfo; kernel_rfl
theorem Sz200 : (Try.prog.info? 200).map (·.size) = some 1 := Inf200.size
theorem Zr200 : (Try.prog.info? 200).map (·.zero) = some (some Value.nilFunc) := by kernel_rfl
theorem ZS200 : (Try.prog.info? 200).map (fun i => (i.zero, i.size)) = some (some Value.nilFunc, 1) := by kernel_rfl
theorem Inf201 : tInfo Try.prog 201 (Value.pointer none) 1 8 := by unfold tInfo; kernel_rfl
theorem Sz201 : (Try.prog.info? 201).map (·.size) = some 1 := Inf201.size
theorem Zr201 : (Try.prog.info? 201).map (·.zero) = some (some (Value.pointer none)) := by kernel_rfl
theorem ZS201 : (Try.prog.info? 201).map (fun i => (i.zero, i.size)) = some (some (Value.pointer none), 1) := by kernel_rfl
theorem Inf202 : tInfo Try.prog 202 Value.nilFunc 1 8 := by unfold tInfo; kernel_rfl
theorem Sz202 : (Try.prog.info? 202).map (·.size) = some 1 := Inf202.size
theorem Zr202 : (Try.prog.info? 202).map (·.zero) = some (some Value.nilFunc) := by kernel_rfl
theorem ZS202 : (Try.prog.info? 202).map (fun i => (i.zero, i.size)) = some (some Value.nilFunc, 1) := by kernel_rfl
theorem Inf203 : tInfo Try.prog 203 Value.nilFunc 1 8 := by unfold tInfo; kernel_rfl
theorem Sz203 : (Try.prog.info? 203).map (·.size) = some 1 := Inf203.size
theorem Zr203 : (Try.prog.info? 203).map (·.zero) = some (some Value.nilFunc) := by kernel_rfl
theorem ZS203 : (Try.prog.info? 203).map (fun i => (i.zero, i.size)) = some (some Value.nilFunc, 1) := by kernel_rfl
theorem Inf204 : tInfo Try.prog 204 Value.nilFunc 1 8 := by unfold tInfo; kernel_rfl
theorem Sz204 : (Try.prog.info? 204).map (·.size) = some 1 := Inf204.size
theorem Zr204 : (Try.prog.info? 204).map (·.zero) = some (some Value.nilFunc) := by kernel_rfl
theorem ZS204 : (Try.prog.info? 204).map (fun i => (i.zero, i.size)) = some (some Value.nilFunc, 1) := by kernel_rfl
theorem Inf205 : tInfo Try.prog 205 (Value.tuple { toList := [Value.slice none 0 0, Value.slice none 0 0] }) 1 0 := by unfold tInfo; kernel_rfl
theorem Sz205 : (Try.prog.info? 205).map (·.size) = some 1 := Inf205.size
theorem Zr205 : (Try.prog.info? 205).map (·.zero) = some (some (Value.tuple { toList := [Value.slice none 0 0, Value.slice none 0 0] })) := by kernel_rfl
theorem ZS205 : (Try.prog.info? 205).map (fun i => (i.zero, i.size)) = some (some (Value.tuple { toList := [Value.slice none 0 0, Value.slice none 0 0] }), 1) := by kernel_rfl
theorem Inf206 : tInfo Try.prog 206 Value.nilFunc 1 8 := by unfold tInfo; kernel_rfl
theorem Sz206 : (Try.prog.info? 206).map (·.size) = some 1 := Inf206.size
theorem Zr206 : (Try.prog.info? 206).map (·.zero) = some (some Value.nilFunc) := by kernel_rfl
theorem ZS206 : (Try.prog.info? 206).map (fun i => (i.zero, i.size)) = some (some Value.nilFunc, 1) := by kernel_rfl
theorem Inf207 : tInfo Try.prog 207 Value.nilFunc 1 8 := by unfold tInfo; kernel_rfl
theorem Sz207 : (Try.prog.info? 207).map (·.size) = some 1 := Inf207.size
theorem Zr207 : (Try.prog.info? 207).map (·.zero) = some (some Value.nilFunc) := by kernel_rfl
theorem ZS207 : (Try.prog.info? 207).map (fun i => (i.zero, i.size)) = some (some Value.nilFunc, 1) := by kernel_rfl
theorem Inf208 : tInfo Try.prog 208 Value.nilFunc 1 8 := by unfold tInfo; kernel_rfl
theorem Sz208 : (Try.prog.info? 208).map (·.size) = some 1 := Inf208.size
theorem Zr208 : (Try.prog.info? 208).map (·.zero) = some (some Value.nilFunc) := by kernel_rfl
theorem ZS208 : (Try.prog.info? 208).map (fun i => (i.zero, i.size)) = some (some Value.nilFunc, 1) := by kernel_rfl
theorem Inf209 : tInfo Try.prog 209 Value.nilFunc 1 8 := by unfold tInfo; kernel_rfl
theorem Sz209 : (Try.prog.info? 209).map (·.size) = some 1 := Inf209.size
theorem Zr209 : (Try.prog.info? 209).map (·.zero) = some (some Value.nilFunc) := by kernel_rfl
theorem ZS209 : (Try.prog.info? 209).map (fun i => (i.zero, i.size)) = some (some Value.nilFunc, 1) := by kernel_rfl
theorem Inf210 : tInfo Try.prog 210 Value.nilFunc 1 8 := by unfold tInfo; kernel_rfl
theorem Sz210 : (Try.prog.info? 210).map (·.size) = some 1 := Inf210.size
theorem Zr210 : (Try.prog.info? 210).map (·.zero) = some (some Value.nilFunc) := by kernel_rfl
theorem ZS210 : (Try.prog.info? 210).map (fun i => (i.zero, i.size)) = some (some Value.nilFunc, 1) := by kernel_rfl
theorem Inf211 : tInfo Try.prog 211 Value.nilFunc 1 8 := by unfold tInfo; kernel_rfl
theorem Sz211 : (Try.prog.info? 211).map (·.size) = some 1 := Inf211.size
theorem Zr211 : (Try.prog.info? 211).map (·.zero) = some (some Value.nilFunc) := by kernel_rfl
theorem ZS211 : (Try.prog.info? 211).map (fun i => (i.zero, i.size)) = some (some Value.nilFunc, 1) := by kernel_rfl
theorem Inf212 : tInfo Try.prog 212 Value.nilFunc 1 8 := by unfold tInfo; kernel_rfl
theorem Sz212 : (Try.prog.info? 212).map (·.size) = some 1 := Inf212.size
theorem Zr212 : (Try.prog.info? 212).map (·.zero) = some (some Value.nilFunc) := by kernel_rfl
theorem ZS212 : (Try.prog.info? 212).map (fun i => (i.zero, i.size)) = some (some Value.nilFunc, 1) := by kernel_rfl
theorem Inf213 : tInfo Try.prog 213 Value.nilFunc 1 8 := by unfold tInfo; kernel_rfl
theorem Sz213 : (Try.prog.info? 213).map (·.size) = some 1 := Inf213.size
theorem Zr213 : (Try.prog.info? 213).map (·.zero) = some (some Value.nilFunc) := by kernel_rfl
theorem ZS213 : (Try.prog.info? 213).map (fun i => (i.zero, i.size)) = some (some Value.nilFunc, 1) := by kernel_rfl
theorem Inf214 : tInfo Try.prog 214 Value.nilFunc 1 8 := by unfold tInfo; kernel_rfl
theorem Sz214 : (Try.prog.info? 214).map (·.size) = some 1 := Inf214.size
theorem Zr214 : (Try.prog.info? 214).map (·.zero) = some (some Value.nilFunc) := by kernel_rfl
theorem ZS214 : (Try.prog.info? 214).map (fun i => (i.zero, i.size)) = some (some Value.nilFunc, 1) := by kernel_rfl
theorem Inf215 : tInfo Try.prog 215 Value.nilFunc 1 8 := by unfold tInfo; kernel_rfl
theorem Sz215 : (Try.prog.info? 215).map (·.size) = some 1 := Inf215.size
theorem Zr215 : (Try.prog.info? 215).map (·.zero) = some (some Value.nilFunc) := by kernel_rfl
theorem ZS215 : (Try.prog.info? 215).map (fun i => (i.zero, i.size)) = some (some Value.nilFunc, 1) := by kernel_rfl
theorem Inf216 : tInfo Try.prog 216 Value.nilFunc 1 8 := by unfold tInfo; kernel_rfl
theorem Sz216 : (Try.prog.info? 216).map (·.size) = some 1 := Inf216.size
theorem Zr216 : (Try.prog.info? 216).map (·.zero) = some (some Value.nilFunc) := by kernel_rfl
theorem ZS216 : (Try.prog.info? 216).map (fun i => (i.zero, i.size)) = some (some Value.nilFunc, 1) := by kernel_rfl
theorem Inf217 : tInfo Try.prog 217 Value.nilFunc 1 8 := by unfold tInfo; kernel_rfl
theorem Sz217 : (Try.prog.info? 217).map (·.size) = some 1 := Inf217.size
theorem Zr217 : (Try.prog.info? 217).map (·.zero) = some (some Value.nilFunc) := by kernel_rfl
theorem ZS217 : (Try.prog.info? 217).map (fun i => (i.zero, i.size)) = some (some Value.nilFunc, 1) := by kernel_rfl
theorem Inf218 : tInfo Try.prog 218 Value.nilFunc 1 8 := by unfold tInfo; kernel_rfl
theorem Sz218 : (Try.prog.info? 218).map (·.size) = some 1 := Inf218.size
theorem Zr218 : (Try.prog.info? 218).map (·.zero) = some (some Value.nilFunc) := by kernel_rfl
theorem ZS218 : (Try.prog.info? 218).map (fun i => (i.zero, i.size)) = some (some Value.nilFunc, 1) := by kernel_rfl
theorem Inf219 : tInfo Try.prog 219 Value.nilFunc 1 8 := by unfold tInfo; kernel_rfl
theorem Sz219 : (Try.prog.info? 219).map (·.size) = some 1 := Inf219.size
theorem Zr219 : (Try.prog.info? 219).map (·.zero) = some (some Value.nilFunc) := by kernel_rfl
theorem ZS219 : (Try.prog.info? 219).map (fun i => (i.zero, i.size)) = some (some Value.nilFunc, 1) := by kernel_rfl
theorem Inf220 : tInfo Try.prog 220 (Value.agg { toList := [Value.pointer none, Value.pointer none, Value.pointer none, Value.string { data := { toList := [] } }] }) 4 40 := by unfold tInfo; kernel_rfl
theorem Sz220 : (Try.prog.info? 220).map (·.size) = some 4 := Inf220.size
theorem Zr220 : (Try.prog.info? 220).map (·.zero) = some (some (Value.agg { toList := [Value.pointer none, Value.pointer none, Value.pointer none, Value.string { data := { toList := [] } }] })) := by kernel_rfl
theorem ZS220 : (Try.prog.info? 220).map (fun i => (i.zero, i.size)) = some (some (Value.agg { toList := [Value.pointer none, Value.pointer none, Value.pointer none, Value.string { data := { toList := [] } }] }), 4) := by kernel_rfl
theorem Inf221 : tInfo Try.prog 221 (Value.agg { toList := [Value.pointer none, Value.pointer none, Value.pointer none, Value.string { data := { toList := [] } }] }) 4 40 := by unfold tInfo; kernel_rfl
theorem Sz221 : (Try.prog.info? 221).map (·.size) = some 4 := Inf221.size
theorem Zr221 : (Try.prog.info? 221).map (·.zero) = some (some (Value.agg { toList := [Value.pointer none, Value.pointer none, Value.pointer none, Value.string { data := { toList := [] } }] })) := by kernel_rfl
theorem ZS221 : (Try.prog.info? 221).map (fun i => (i.zero, i.size)) = some (some (Value.agg { toList := [Value.pointer none, Value.pointer none, Value.pointer none, Value.string { data := { toList := [] } }] }), 4) := by kernel_rfl
theorem Inf222 : tInfo Try.prog 222 (Value.agg { toList := [] }) 0 0 := by unfold tInfo; kernel_rfl
theorem Sz222 : (Try.prog.info? 222).map (·.size) = some 0 := Inf222.size
theorem Zr222 : (Try.prog.info? 222).map (·.zero) = some (some (Value.agg { toList := [] })) := by kernel_rfl
theorem ZS222 : (Try.prog.info? 222).map (fun i => (i.zero, i.size)) = some (some (Value.agg { toList := [] }), 0) := by kernel_rfl
theorem Inf223 : tInfo Try.prog 223 (Value.agg { toList := [] }) 0 0 := by unfold tInfo; kernel_rfl
theorem Sz223 : (Try.prog.info? 223).map (·.size) = some 0 := Inf223.size
theorem Zr223 : (Try.prog.info? 223).map (·.zero) = some (some (Value.agg { toList := [] })) := by kernel_rfl
theorem ZS223 : (Try.prog.info? 223).map (fun i => (i.zero, i.size)) = some (some (Value.agg { toList := [] }), 0) := by kernel_rfl
theorem Inf224 : tInfo Try.prog 224 (Value.agg { toList := [] }) 0 0 := by unfold tInfo; kernel_rfl
theorem Sz224 : (Try.prog.info? 224).map (·.size) = some 0 := Inf224.size
theorem Zr224 : (Try.prog.info? 224).map (·.zero) = some (some (Value.agg { toList := [] })) := by kernel_rfl
theorem ZS224 : (Try.prog.info? 224).map (fun i => (i.zero, i.size)) = some (some (Value.agg { toList := [] }), 0) := by kernel_rfl
theorem Inf225 : tInfo Try.prog 225 (Value.int IntKind.u32 (0)) 1 4 := by unfold tInfo; kernel_rfl
theorem Sz225 : (Try.prog.info? 225).map (·.size) = some 1 := Inf225.size
theorem Zr225 : (Try.prog.info? 225).map (·.zero) = some (some (Value.int IntKind.u32 (0))) := by kernel_rfl
theorem ZS225 : (Try.prog.info? 225).map (fun i => (i.zero, i.size)) = some (some (Value.int IntKind.u32 (0)), 1) := by kernel_rfl
theorem Inf226 : tInfo Try.prog 226 (Value.int IntKind.u8 (0)) 1 1 := by unfold tInfo; kernel_rfl
theorem Sz226 : (Try.prog.info? 226).map (·.size) = some 1 := Inf226.size
theorem Zr226 : (Try.prog.info? 226).map (·.zero) = some (some (Value.int IntKind.u8 (0))) := by kernel_rfl
theorem ZS226 : (Try.prog.info? 226).map (fun i => (i.zero, i.size)) = some (some (Value.int IntKind.u8 (0)), 1) := by kernel_rfl
theorem Inf227 : tInfo Try.prog 227 (Value.int IntKind.u8 (0)) 1 1 := by unfold tInfo; kernel_rfl
theorem Sz227 : (Try.prog.info? 227).map (·.size) = some 1 := Inf227.size
theorem Zr227 : (Try.prog.info? 227).map (·.zero) = some (some (Value.int IntKind.u8 (0))) := by kernel_rfl
theorem ZS227 : (Try.prog.info? 227).map (fun i => (i.zero, i.size)) = some (some (Value.int IntKind.u8 (0)), 1) := by kernel_rfl
theorem Inf228 : tInfo Try.prog 228 Value.nilFunc 1 8 := by unfold tInfo; kernel_rfl
theorem Sz228 : (Try.prog.info? 228).map (·.size) = some 1 := Inf228.size
theorem Zr228 : (Try.prog.info? 228).map (·.zero) = some (some Value.nilFunc) := by kernel_rfl
theorem ZS228 : (Try.prog.info? 228).map (fun i => (i.zero, i.size)) = some (some Value.nilFunc, 1) := by kernel_rfl
theorem Inf229 : tInfo Try.prog 229 (Value.int IntKind.i32 (0)) 1 4 := by unfold tInfo; kernel_rfl
theorem Sz229 : (Try.prog.info? 229).map (·.size) = some 1 := Inf229.size
theorem Zr229 : (Try.prog.info? 229).map (·.zero) = some (some (Value.int IntKind.i32 (0))) := by kernel_rfl
theorem ZS229 : (Try.prog.info? 229).map (fun i => (i.zero, i.size)) = some (some (Value.int IntKind.i32 (0)), 1) := by kernel_rfl
theorem Inf230 : tInfo Try.prog 230 (Value.int IntKind.i32 (0)) 1 4 := by unfold tInfo; kernel_rfl
theorem Sz230 : (Try.prog.info? 230).map (·.size) = some 1 := Inf230.size
theorem Zr230 : (Try.prog.info? 230).map (·.zero) = some (some (Value.int IntKind.i32 (0))) := by kernel_rfl
theorem ZS230 : (Try.prog.info? 230).map (fun i => (i.zero, i.size)) = some (some (Value.int IntKind.i32 (0)), 1) := by kernel_rfl
theorem Inf231 : tInfo Try.prog 231 (Value.agg { toList := [Value.int IntKind.u64 (0), Value.int IntKind.u64 (0), Value.int IntKind.u32 (0), Value.int IntKind.u8 (0), Value.int IntKind.u8 (0), Value.int IntKind.u8 (0), Value.int IntKind.u8 (0), Value.nilFunc, Value.pointer none, Value.int IntKind.i32 (0), Value.int IntKind.i32 (0)] }) 11 48 := by unfold tInfo; kernel_rfl
theorem Sz231 : (Try.prog.info? 231).map (·.size) = some 11 := Inf231.size
theorem Zr231 : (Try.prog.info? 231).map (·.zero) = some (some (Value.agg { toList := [Value.int IntKind.u64 (0), Value.int IntKind.u64 (0), Value.int IntKind.u32 (0), Value.int IntKind.u8 (0), Value.int IntKind.u8 (0), Value.int IntKind.u8 (0), Value.int IntKind.u8 (0), Value.nilFunc, Value.pointer none, Value.int IntKind.i32 (0), Value.int IntKind.i32 (0)] })) := by kernel_rfl
theorem ZS231 : (Try.prog.info? 231).map (fun i => (i.zero, i.size)) = some (some (Value.agg { toList := [Value.int IntKind.u64 (0), Value.int IntKind.u64 (0), Value.int IntKind.u32 (0), Value.int IntKind.u8 (0), Value.int IntKind.u8 (0), Value.int IntKind.u8 (0), Value.int IntKind.u8 (0), Value.nilFunc, Value.pointer none, Value.int IntKind.i32 (0), Value.int IntKind.i32 (0)] }), 11) := by kernel_rfl
theorem Inf232 : tInfo Try.prog 232 (Value.agg { toList := [Value.int IntKind.u64 (0), Value.int IntKind.u64 (0), Value.int IntKind.u32 (0), Value.int IntKind.u8 (0), Value.int IntKind.u8 (0), Value.int IntKind.u8 (0), Value.int IntKind.u8 (0), Value.nilFunc, Value.pointer none, Value.int IntKind.i32 (0), Value.int IntKind.i32 (0)] }) 11 48 := by unfold tInfo; kernel_rfl
theorem Sz232 : (Try.prog.info? 232).map (·.size) = some 11 := Inf232.size
theorem Zr232 : (Try.prog.info? 232).map (·.zero) = some (some (Value.agg { toList := [Value.int IntKind.u64 (0), Value.int IntKind.u64 (0), Value.int IntKind.u32 (0), Value.int IntKind.u8 (0), Value.int IntKind.u8 (0), Value.int IntKind.u8 (0), Value.int IntKind.u8 (0), Value.nilFunc, Value.pointer none, Value.int IntKind.i32 (0), Value.int IntKind.i32 (0)] })) := by kernel_rfl
theorem ZS232 : (Try.prog.info? 232).map (fun i => (i.zero, i.size)) = some (some (Value.agg { toList := [Value.int IntKind.u64 (0), Value.int IntKind.u64 (0), Value.int IntKind.u32 (0), Value.int IntKind.u8 (0), Value.int IntKind.u8 (0), Value.int IntKind.u8 (0), Value.int IntKind.u8 (0), Value.nilFunc, Value.pointer none, Value.int IntKind.i32 (0), Value.int IntKind.i32 (0)] }), 11) := by kernel_rfl
theorem Inf233 : tInfo Try.prog 233 (Value.agg { toList := [Value.int IntKind.i64 (0), Value.int IntKind.i64 (0), Value.slice none 0 0] }) 3 40 := by unfold tInfo; kernel_rfl
theorem Sz233 : (Try.prog.info? 233).map (·.size) = some 3 := Inf233.size
theorem Zr233 : (Try.prog.info? 233).map (·.zero) = some (some (Value.agg { toList := [Value.int IntKind.i64 (0), Value.int IntKind.i64 (0), Value.slice none 0 0] })) := by kernel_rfl
theorem ZS233 : (Try.prog.info? 233).map (fun i => (i.zero, i.size)) = some (some (Value.agg { toList := [Value.int IntKind.i64 (0), Value.int IntKind.i64 (0), Value.slice none 0 0] }), 3) := by kernel_rfl
theorem Inf234 : tInfo Try.prog 234 (Value.agg { toList := [Value.int IntKind.i64 (0), Value.int IntKind.i64 (0), Value.slice none 0 0] }) 3 40 := by unfold tInfo; kernel_rfl
theorem Sz234 : (Try.prog.info? 234).map (·.size) = some 3 := Inf234.size
theorem Zr234 : (Try.prog.info? 234).map (·.zero) = some (some (Value.agg { toList := [Value.int IntKind.i64 (0), Value.int IntKind.i64 (0), Value.slice none 0 0] })) := by kernel_rfl
theorem ZS234 : (Try.prog.info? 234).map (fun i => (i.zero, i.size)) = some (some (Value.agg { toList := [Value.int IntKind.i64 (0), Value.int IntKind.i64 (0), Value.slice none 0 0] }), 3) := by kernel_rfl
theorem Inf235 : tInfo Try.prog 235 Value.nilFunc 1 8 := by unfold tInfo; kernel_rfl
theorem Sz235 : (Try.prog.info? 235).map (·.size) = some 1 := Inf235.size
theorem Zr235 : (Try.prog.info? 235).map (·.zero) = some (some Value.nilFunc) := by kernel_rfl
theorem ZS235 : (Try.prog.info? 235).map (fun i => (i.zero, i.size)) = some (some Value.nilFunc, 1) := by kernel_rfl
theorem Inf236 : tInfo Try.prog 236 Value.nilFunc 1 8 := by unfold tInfo; kernel_rfl
theorem Sz236 : (Try.prog.info? 236).map (·.size) = some 1 := Inf236.size
theorem Zr236 : (Try.prog.info? 236).map (·.zero) = some (some Value.nilFunc) := by kernel_rfl
theorem ZS236 : (Try.prog.info? 236).map (fun i => (i.zero, i.size)) = some (some Value.nilFunc, 1) := by kernel_rfl
theorem Inf237 : tInfo Try.prog 237 Value.nilFunc 1 8 := by unfold tInfo; kernel_rfl
theorem Sz237 : (Try.prog.info? 237).map (·.size) = some 1 := Inf237.size
theorem Zr237 : (Try.prog.info? 237).map (·.zero) = some (some Value.nilFunc) := by kernel_rfl
theorem ZS237 : (Try.prog.info? 237).map (fun i => (i.zero, i.size)) = some (some Value.nilFunc, 1) := by kernel_rfl
theorem mixed : Try.prog.follows .mixedOrders = true := by kernel_rfl
end Go.Proofs.Ytadkehaagkjbhaa
