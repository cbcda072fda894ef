/-
  An append onto a new list of bytes.
-/
import Derived.Test.YtlphmahlchgafaaValOrd2
import Derived.Test.YtlphmahlchgafaaOctAV
namespace Go.AV.Ord
open Go.AV.Val Go.AV.Oct
theorem op_appendN {P : Program} {E : Operand → AV} {H : HS} {dst : Option Tmp} {ty : TypeId} {pos : String} {after : Array Edge} {gd : Option (Nat × Bool)} {x y : Operand} {t' tx e : TypeId} {m : List UInt8} (ht : P.underlying t' = some (.slice e)) (hi : tInfo P e (.int .u8 0) 1 1)
    (hx : E x = .own none 1 []) (hy : Adds P tx (E y) 1 (m.map BY)) (hne : m ≠ []) (hn : m.length ≤ 140737488355328) :
    OpR P ⟨dst, .call ⟨.builtin .append, #[x, y], #[t', tx]⟩, ty, pos, after, gd⟩ E H (Ret (ownB H none m) (upB H none m)) := by
  have hv : App (E x) none 1 [] := by rw [hx]; exact .own _ _ _
  have h := op_append (dst := dst) (ty := ty) (pos := pos) (after := after) (gd := gd) (H := H) ht hi rfl hv hy (HS.ok_none _ _) (by simpa using List.length_pos_iff.2 hne) (by simpa using hn) (by simpa using hn)
  have e1 : (AV.own (some (H.tk none)) 1 ([] ++ m.map BY)) = ownB H none m := by simp [ownB]
  have e2 : H.up none (([] : List DV).length + (m.map BY).length) = upB H none m := by simp [upB]
  rw [e1, e2] at h
  exact h
theorem begins_self_app (p r : List UInt8) : begins (p ++ r) p = true := begins_iff.2 ⟨r, rfl⟩
end Go.AV.Ord
