/-
  A list of bytes that is made, all noughts.
-/
import Derived.Test.YtadkehaagkjbhaaA12
import Derived.Laws.MakeOwn
namespace Go.AV
open Go.RowKit
section
variable {P : Program} {E : Operand → AV} {H : HS} {dst : Option Tmp} {ty : TypeId} {pos : String} {after : Array Edge} {gd : Option (Nat × Bool)}
theorem op_makeBytes {x y : Operand} {t e : TypeId} {kx ky : IntKind} (k : Nat) (ht : P.underlying t = some (.slice e)) (hi : tInfo P e (.int .u8 0) 1 1) (hx : E x = .d (.v (.int kx k))) (hy : E y = .d (.v (.int ky k))) (hk : k ≤ 1000000) :
    OpR P ⟨dst, .makeSlice t x y, ty, pos, after, gd⟩ E H (Ret (.d (.lst 1 ((List.replicate k 0).map BY))) H) :=
  opR_value fun B w0 c w a hI hops => by
    have h1 := hops x (by simp [Op.operands])
    have h2 := hops y (by simp [Op.operands])
    rw [hx] at h1
    rw [hy] at h2
    obtain ⟨i, g1, g5⟩ := Option.map_eq_some_iff.1 hi
    obtain ⟨g2, g3, g4⟩ : i.zero = some (.int .u8 0) ∧ i.size = 1 ∧ i.bytes = 1 := by simpa using g5
    have hr := run_make (P := P) w t e i (.int .u8 0) ht g1 g2 kx ky k k (by omega) (by omega) (by rw [g4]; omega) (by omega)
    rw [g3] at hr
    simp only [Int.toNat_natCast, Nat.mul_one] at hr
    obtain ⟨i1, l1⟩ := hI.allocProt (madeCells (Value.int .u8 0).cells k) e (0, 0) k (by rw [size_madeCells]; exact Nat.le_refl _)
    refine ⟨_, _, _, _, _, ?_, l1, .d (RepD.bytes (g := w.heap.size) (n := k) (cap := k) (List.replicate k 0) (by simp) (Nat.le_refl _) fun j hj => ?_), i1, rfl, rfl⟩
    · simp [execOp, h1.v_eq, h2.v_eq, hr]
    · have hj' : j < k := by simpa using hj
      show (if w.heap.size = w.heap.size ∧ j < k then _ else _) = _
      rw [if_pos ⟨rfl, hj'⟩]
      simp [madeCells, Value.cells, Array.getD, hj', Nat.mod_one]
end
end Go.AV
