/-
  The AV logic, part 20: two texts compared by the runtime.
-/
import Derived.Test.YtadkehaagkjbhaaA19
import Derived.Lib.Bytealg
namespace Go.AV
open Go.RowKit
theorem op_cmpstring {P : Program} {E : Operand → AV} {H : HS} {dst : Option Tmp} {ty : TypeId} {pos : String} {after : Array Edge} {gd : Option (Nat × Bool)} {x y : Operand} {f : FuncId} {fn : Func} {ts : Array TypeId} {a b : List UInt8}
    (hfn : P.funcs[f]? = some fn) (hname : (fn.name == "runtime.NumGoroutine") = false) (hb : fn.body.isNone = true) (hn : Extern.findNext fn = none) (he : Extern.find fn = some Extern.BytealgCompare.compare) (hx : E x = .d (S a)) (hy : E y = .d (S b)) :
    OpR P ⟨dst, .call ⟨.value (.func f), #[x, y], ts⟩, ty, pos, after, gd⟩ E H (Ret (.d (I (Lib.compareBytes a b))) H) :=
  opR_pure fun c w ac hm hops => by
    have h1 := hops x (by simp [Op.operands, Call.operands])
    rw [hx] at h1
    have h2 := hops y (by simp [Op.operands, Call.operands])
    rw [hy] at h2
    have e1 := h1.v_eq
    have e2 := h2.v_eq
    refine ⟨.int .i64 (Lib.compareBytes a b), ?_, .d (.v _ rfl)⟩
    have hr := run_callFunc_extern (w := w) hfn hname hb hn he #[ac.eval x, ac.eval y]
    rw [e1, e2, Lib.run_compareString] at hr
    have ef : ac.eval (.func f) = .func (.func f) #[] #[] := rfl
    simp [execOp, resolve, Deferred.ofValue, invoke, ef, e1, e2, hr]
end Go.AV
