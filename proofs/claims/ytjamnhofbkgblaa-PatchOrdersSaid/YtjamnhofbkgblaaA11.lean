/-
  The AV logic, part 11: appends of any list.
-/
import Derived.Test.YtjamnhofbkgblaaA10
namespace Go.AV
section
variable {P : Program} {T T' : List AV} {H : HS} {Q : Post} {dst : Option Tmp} {ty : TypeId} {pos : String} {after : Array Edge} {gd : Option (Nat × Bool)}
/-- append(xs, ys...), whatever ys is. -/
theorem op_appendX {x y : Operand} {t' tx e : TypeId} {z : Value} {sz bytes : Nat} {t : Option Nat} {v w : AV} {xs ys : List DV} (ht : P.underlying t' = some (.slice e)) (hi : tInfo P e z sz bytes) (hzs : z.cells.size = sz) (hx : evalT T x = v) (hv : App v t sz xs) (hy : evalT T y = w) (hw : Adds P tx w sz ys)
    (hok : H.ok t xs.length) (hb : (xs.length + ys.length) * bytes ≤ 140737488355328) (hn : xs.length + ys.length ≤ 140737488355328) :
    OpR P ⟨dst, .call ⟨.builtin .append, #[x, y], #[t', tx]⟩, ty, pos, after, gd⟩ (evalT T) H (fun av H' => ∃ t', App av t' sz (xs ++ ys) ∧ Heir H t H' t' ∧ H'.ok t' (xs ++ ys).length) := by
  subst hx hy
  have key : ∀ {v : AV} {H' : HS} {R : AV → HS → Prop}, OpR P ⟨dst, .call ⟨.builtin .append, #[x, y], #[t', tx]⟩, ty, pos, after, gd⟩ (evalT T) H (Ret v H') → R v H' → OpR P ⟨dst, .call ⟨.builtin .append, #[x, y], #[t', tx]⟩, ty, pos, after, gd⟩ (evalT T) H R :=
    fun h hR B w0 c w a next Q hI hops hnext => h B w0 c w a next Q hI hops (fun v' w' c' av H'' l1 r1 i1 ⟨e1, e2⟩ => hnext v' w' c' av H'' l1 r1 i1 (by rw [e1, e2]; exact hR))
  by_cases hm : ys = []
  · subst hm
    exact key (op_append0 ht hi hv.ll hw) ⟨t, by simpa using hv, Heir.refl _ _, by simpa using hok⟩
  · exact key (op_append ht hi hzs hv hw hok (List.length_pos_iff.2 hm) hb hn) ⟨_, .own _ _ _, (Heir.refl H t).step _, HS.ok_up' hok (by simp)⟩
end
end Go.AV
