/-
  The AV logic, part 5: the rules of the operations.
-/
import Derived.Test.YtjamnhofbkgblaaA4
import Derived.Laws.Strings
import Derived.Lib.Strings
import Derived.IntWalk
namespace Go.AV
open Go.RowKit

/-- A text, a byte, a number, a truth value. -/
def S (l : List UInt8) : DV := .v (.string ⟨l.toArray⟩)
def BY (b : UInt8) : DV := .v (.int .u8 (b.toNat : Int))
def I (n : Int) : DV := .v (.int .i64 n)
def TF (b : Bool) : DV := .v (.bool b)
abbrev nilS : AV := .d (.v (.slice none 0 0))

section
variable {P : Program} {E : Operand → AV} {H : HS} {R : AV → HS → Prop} {dst : Option Tmp} {ty : TypeId} {pos : String} {after : Array Edge} {gd : Option (Nat × Bool)}

theorem opR_value {o : Oper} (h : ∀ (B : Nat) (w0 : World) (c : Ctx) (w : World) (a : Act), Inv B w0 c H w → (∀ x ∈ o.op.operands, Rep c (a.eval x) (E x)) →
    ∃ v' w' c' av H', (execOp a.eval o).run P w = .ok (.value v') w' ∧ Le c c' ∧ Rep c' v' av ∧ Inv B w0 c' H' w' ∧ R av H') : OpR P o E H R := by
  intro B w0 c w a next Q hI hops hnext
  obtain ⟨v', w', c', av, H', h1, h2, h3, h4, h5⟩ := h B w0 c w a hI hops
  unfold Oper.wp
  rw [h1]
  exact hnext v' w' c' av H' h2 h3 h4 h5
theorem opR_pure {o : Oper} {v : AV} (h : ∀ (c : Ctx) (w : World) (a : Act), (∀ g o u, c.mem g o = some u → w.cell? ⟨g, o, none⟩ = some u) → (∀ x ∈ o.op.operands, Rep c (a.eval x) (E x)) →
    ∃ v', (execOp a.eval o).run P w = .ok (.value v') w ∧ Rep c v' v) : OpR P o E H (Ret v H) :=
  opR_value fun B w0 c w a hI hops => by
    obtain ⟨v', h1, h2⟩ := h c w a hI.mem hops
    exact ⟨v', w, c, v, H, h1, Le.refl c, h2, hI, rfl, rfl⟩
/-- The operands are scalars. -/
theorem op_move {x : Operand} : OpR P ⟨dst, .move x, ty, pos, after, gd⟩ E H (Ret (E x) H) :=
  opR_pure fun c w a _ hops => ⟨a.eval x, rfl, hops x (by simp [Op.operands])⟩
theorem op_assign {x : Operand} : OpR P ⟨dst, .assign x, ty, pos, after, gd⟩ E H (Ret (E x) H) :=
  opR_pure fun c w a _ hops => ⟨a.eval x, rfl, hops x (by simp [Op.operands])⟩

/-! ### Numbers, texts, truth values -/
theorem op_bin_of {op : BinOp} {x y : Operand} {t t' : TypeId} {X Y : Value} (r : Value) (hx : E x = .d (.v X)) (hy : E y = .d (.v Y)) (hp : plain r = true)
    (hg : ∀ w, (eqGuard op t x y X Y).run P w = .ok () w) (hr : ∀ w, (binOp op t X Y).run P w = .ok r w) : OpR P ⟨dst, .binOp op t x y t', ty, pos, after, gd⟩ E H (Ret (.d (.v r)) H) :=
  opR_pure fun c w a _ hops => by
    have h1 := hops x (by simp [Op.operands])
    have h2 := hops y (by simp [Op.operands])
    rw [hx] at h1
    rw [hy] at h2
    have e1 := h1.v_eq
    have e2 := h2.v_eq
    refine ⟨r, ?_, .d (.v r hp)⟩
    simp [execOp, e1, e2, hg w, hr w]
theorem guard_int {op : BinOp} {x y : Operand} {t : TypeId} {k k' : IntKind} {m n : Int} (w : World) : (eqGuard op t x y (.int k m) (.int k' n)).run P w = .ok () w := by
  cases op <;> simp [eqGuard]
theorem guard_bool {op : BinOp} {x y : Operand} {t : TypeId} {m n : Bool} (w : World) : (eqGuard op t x y (.bool m) (.bool n)).run P w = .ok () w := by
  cases op <;> simp [eqGuard]
theorem guard_str {op : BinOp} {x y : Operand} {t : TypeId} {m n : ByteArray} (w : World) : (eqGuard op t x y (.string m) (.string n)).run P w = .ok () w := by
  cases op <;> simp [eqGuard]
section
variable {x y : Operand} {t t' : TypeId} {k : IntKind} {m n : Int}
theorem op_add {r : Int} (hx : E x = .d (.v (.int k m))) (hy : E y = .d (.v (.int k n))) (hr : k.wrap (m + n) = r) : OpR P ⟨dst, .binOp .add t x y t', ty, pos, after, gd⟩ E H (Ret (.d (.v (.int k r))) H) :=
  op_bin_of (.int k r) hx hy rfl (fun w => guard_int w) fun w => by simp [binOp, Op.intArith, hr]
theorem op_sub {r : Int} (hx : E x = .d (.v (.int k m))) (hy : E y = .d (.v (.int k n))) (hr : k.wrap (m - n) = r) : OpR P ⟨dst, .binOp .sub t x y t', ty, pos, after, gd⟩ E H (Ret (.d (.v (.int k r))) H) :=
  op_bin_of (.int k r) hx hy rfl (fun w => guard_int w) fun w => by simp [binOp, Op.intArith, hr]
theorem op_mul {r : Int} (hx : E x = .d (.v (.int k m))) (hy : E y = .d (.v (.int k n))) (hr : k.wrap (m * n) = r) : OpR P ⟨dst, .binOp .mul t x y t', ty, pos, after, gd⟩ E H (Ret (.d (.v (.int k r))) H) :=
  op_bin_of (.int k r) hx hy rfl (fun w => guard_int w) fun w => by simp [binOp, Op.intArith, hr]
theorem op_quo {r : Int} (hx : E x = .d (.v (.int k m))) (hy : E y = .d (.v (.int k n))) (hn : n ≠ 0) (hr : k.wrap (m.tdiv n) = r) : OpR P ⟨dst, .binOp .quo t x y t', ty, pos, after, gd⟩ E H (Ret (.d (.v (.int k r))) H) :=
  op_bin_of (.int k r) hx hy rfl (fun w => guard_int w) fun w => by simp [binOp, Op.intDiv, hn, hr]
theorem op_rem {r : Int} (hx : E x = .d (.v (.int k m))) (hy : E y = .d (.v (.int k n))) (hn : n ≠ 0) (hr : m.tmod n = r) : OpR P ⟨dst, .binOp .rem t x y t', ty, pos, after, gd⟩ E H (Ret (.d (.v (.int k r))) H) :=
  op_bin_of (.int k r) hx hy rfl (fun w => guard_int w) fun w => by simp [binOp, Op.intDiv, hn, hr]
theorem op_and {r : Int} (hx : E x = .d (.v (.int k m))) (hy : E y = .d (.v (.int k n))) (hr : k.wrap (BitVec.ofInt k.bits m &&& BitVec.ofInt k.bits n).toNat = r) : OpR P ⟨dst, .binOp .and t x y t', ty, pos, after, gd⟩ E H (Ret (.d (.v (.int k r))) H) :=
  op_bin_of (.int k r) hx hy rfl (fun w => guard_int w) fun w => by
    subst hr
    show Sem.run P (if k ≠ k then _ else _) w = _
    rw [if_neg (fun h => h rfl)]
    rfl
theorem op_or {r : Int} (hx : E x = .d (.v (.int k m))) (hy : E y = .d (.v (.int k n))) (hr : k.wrap (BitVec.ofInt k.bits m ||| BitVec.ofInt k.bits n).toNat = r) : OpR P ⟨dst, .binOp .or t x y t', ty, pos, after, gd⟩ E H (Ret (.d (.v (.int k r))) H) :=
  op_bin_of (.int k r) hx hy rfl (fun w => guard_int w) fun w => by
    subst hr
    show Sem.run P (if k ≠ k then _ else _) w = _
    rw [if_neg (fun h => h rfl)]
    rfl
theorem op_xor {r : Int} (hx : E x = .d (.v (.int k m))) (hy : E y = .d (.v (.int k n))) (hr : k.wrap (BitVec.ofInt k.bits m ^^^ BitVec.ofInt k.bits n).toNat = r) : OpR P ⟨dst, .binOp .xor t x y t', ty, pos, after, gd⟩ E H (Ret (.d (.v (.int k r))) H) :=
  op_bin_of (.int k r) hx hy rfl (fun w => guard_int w) fun w => by
    subst hr
    show Sem.run P (if k ≠ k then _ else _) w = _
    rw [if_neg (fun h => h rfl)]
    rfl
theorem op_shl {k' : IntKind} {r : Int} (hx : E x = .d (.v (.int k m))) (hy : E y = .d (.v (.int k' n))) (hn : 0 ≤ n) (hr : k.wrap (m * 2 ^ (min n.toNat k.bits)) = r) : OpR P ⟨dst, .binOp .shl t x y t', ty, pos, after, gd⟩ E H (Ret (.d (.v (.int k r))) H) :=
  op_bin_of (.int k r) hx hy rfl (fun w => guard_int w) fun w => by
    have : ¬ n < 0 := by omega
    simp [binOp, Op.shift, this, hr]
theorem op_shr {k' : IntKind} {r : Int} (hx : E x = .d (.v (.int k m))) (hy : E y = .d (.v (.int k' n))) (hn : 0 ≤ n) (hr : m.fdiv (2 ^ (min n.toNat k.bits)) = r) : OpR P ⟨dst, .binOp .shr t x y t', ty, pos, after, gd⟩ E H (Ret (.d (.v (.int k r))) H) :=
  op_bin_of (.int k r) hx hy rfl (fun w => guard_int w) fun w => by
    have : ¬ n < 0 := by omega
    simp [binOp, Op.shift, this, hr]
theorem op_eqI (hx : E x = .d (.v (.int k m))) (hy : E y = .d (.v (.int k n))) : OpR P ⟨dst, .binOp .eql t x y t', ty, pos, after, gd⟩ E H (Ret (.d (TF (m == n))) H) :=
  op_bin_of _ hx hy rfl (fun w => guard_int w) fun w => by simp [binOp, Op.intCmp]
theorem op_neI (hx : E x = .d (.v (.int k m))) (hy : E y = .d (.v (.int k n))) : OpR P ⟨dst, .binOp .neq t x y t', ty, pos, after, gd⟩ E H (Ret (.d (TF (m != n))) H) :=
  op_bin_of _ hx hy rfl (fun w => guard_int w) fun w => by simp [binOp, Op.intCmp]
theorem op_ltI (hx : E x = .d (.v (.int k m))) (hy : E y = .d (.v (.int k n))) : OpR P ⟨dst, .binOp .lss t x y t', ty, pos, after, gd⟩ E H (Ret (.d (TF (decide (m < n)))) H) :=
  op_bin_of _ hx hy rfl (fun w => guard_int w) fun w => by simp [binOp, Op.intCmp]
theorem op_leI (hx : E x = .d (.v (.int k m))) (hy : E y = .d (.v (.int k n))) : OpR P ⟨dst, .binOp .leq t x y t', ty, pos, after, gd⟩ E H (Ret (.d (TF (decide (m ≤ n)))) H) :=
  op_bin_of _ hx hy rfl (fun w => guard_int w) fun w => by simp [binOp, Op.intCmp]
theorem op_gtI (hx : E x = .d (.v (.int k m))) (hy : E y = .d (.v (.int k n))) : OpR P ⟨dst, .binOp .gtr t x y t', ty, pos, after, gd⟩ E H (Ret (.d (TF (decide (n < m)))) H) :=
  op_bin_of _ hx hy rfl (fun w => guard_int w) fun w => by simp [binOp, Op.intCmp]
theorem op_geI (hx : E x = .d (.v (.int k m))) (hy : E y = .d (.v (.int k n))) : OpR P ⟨dst, .binOp .geq t x y t', ty, pos, after, gd⟩ E H (Ret (.d (TF (decide (n ≤ m)))) H) :=
  op_bin_of _ hx hy rfl (fun w => guard_int w) fun w => by simp [binOp, Op.intCmp]
theorem op_eqS {l l' : List UInt8} (hx : E x = .d (S l)) (hy : E y = .d (S l')) : OpR P ⟨dst, .binOp .eql t x y t', ty, pos, after, gd⟩ E H (Ret (.d (TF (l == l'))) H) :=
  op_bin_of _ hx hy rfl (fun w => guard_str w) fun w => by simp [binOp, Op.stringOp]
theorem op_neS {l l' : List UInt8} (hx : E x = .d (S l)) (hy : E y = .d (S l')) : OpR P ⟨dst, .binOp .neq t x y t', ty, pos, after, gd⟩ E H (Ret (.d (TF (!(l == l')))) H) :=
  op_bin_of _ hx hy rfl (fun w => guard_str w) fun w => by simp [binOp, Op.stringOp]
theorem op_ltS {l l' : List UInt8} (hx : E x = .d (S l)) (hy : E y = .d (S l')) : OpR P ⟨dst, .binOp .lss t x y t', ty, pos, after, gd⟩ E H (Ret (.d (TF (Op.bytesLess l l'))) H) :=
  op_bin_of _ hx hy rfl (fun w => guard_str w) fun w => by simp [binOp, Op.stringOp]
theorem op_gtS {l l' : List UInt8} (hx : E x = .d (S l)) (hy : E y = .d (S l')) : OpR P ⟨dst, .binOp .gtr t x y t', ty, pos, after, gd⟩ E H (Ret (.d (TF (!(Op.bytesLess l l' || l == l')))) H) :=
  op_bin_of _ hx hy rfl (fun w => guard_str w) fun w => by simp [binOp, Op.stringOp]
theorem op_leS {l l' : List UInt8} (hx : E x = .d (S l)) (hy : E y = .d (S l')) : OpR P ⟨dst, .binOp .leq t x y t', ty, pos, after, gd⟩ E H (Ret (.d (TF (Op.bytesLess l l' || l == l'))) H) :=
  op_bin_of _ hx hy rfl (fun w => guard_str w) fun w => by simp [binOp, Op.stringOp]
theorem op_geS {l l' : List UInt8} (hx : E x = .d (S l)) (hy : E y = .d (S l')) : OpR P ⟨dst, .binOp .geq t x y t', ty, pos, after, gd⟩ E H (Ret (.d (TF (!(Op.bytesLess l l')))) H) :=
  op_bin_of _ hx hy rfl (fun w => guard_str w) fun w => by simp [binOp, Op.stringOp]
theorem str_append (l l' : List UInt8) : (⟨l.toArray⟩ : ByteArray) ++ (⟨l'.toArray⟩ : ByteArray) = ⟨(l ++ l').toArray⟩ := by
  apply ByteArray.ext
  simp
theorem op_addS {l l' : List UInt8} (hx : E x = .d (S l)) (hy : E y = .d (S l')) (hl : l.length + l'.length ≤ 9223372036854775807) : OpR P ⟨dst, .binOp .add t x y t', ty, pos, after, gd⟩ E H (Ret (.d (S (l ++ l'))) H) :=
  op_bin_of _ hx hy rfl (fun w => guard_str w) fun w => by
    have h1 : (⟨l.toArray⟩ : ByteArray).size = l.length := by simp [ByteArray.size]
    have h2 : (⟨l'.toArray⟩ : ByteArray).size = l'.length := by simp [ByteArray.size]
    have h3 : ¬ ((((⟨l.toArray⟩ : ByteArray).size + (⟨l'.toArray⟩ : ByteArray).size : Nat) : Int) > IntKind.i64.max) := by
      have : IntKind.i64.max = 9223372036854775807 := by decide
      rw [h1, h2, this]
      omega
    simp only [binOp, Op.stringOp]
    rw [if_neg h3, str_append]
    rfl
theorem equalIn_bool (w : World) (d : Nat) {t : TypeId} (ht : P.underlying t = some .bool) (m n : Bool) : (Op.equalIn (d + 1) t (.bool m) (.bool n)).run P w = .ok (m == n) w := by
  simp [Op.equalIn, run_underlying ht]
theorem equalIn_ptr (w : World) (d : Nat) {t el : TypeId} (ht : P.underlying t = some (.pointer el)) (a : Addr) : (Op.equalIn (d + 1) t (.pointer (some a)) (.pointer none)).run P w = .ok false w := by
  simp [Op.equalIn, run_underlying ht]
theorem op_eqB {m n : Bool} (ht : P.underlying t = some .bool) (hx : E x = .d (.v (.bool m))) (hy : E y = .d (.v (.bool n))) : OpR P ⟨dst, .binOp .eql t x y t', ty, pos, after, gd⟩ E H (Ret (.d (TF (m == n))) H) :=
  op_bin_of _ hx hy rfl (fun w => guard_bool w) fun w => by
    simp only [binOp]
    simp [Op.equal, Op.maxDepth, equalIn_bool w 9999 ht m n]
theorem op_neB {m n : Bool} (ht : P.underlying t = some .bool) (hx : E x = .d (.v (.bool m))) (hy : E y = .d (.v (.bool n))) : OpR P ⟨dst, .binOp .neq t x y t', ty, pos, after, gd⟩ E H (Ret (.d (TF (!(m == n)))) H) :=
  op_bin_of _ hx hy rfl (fun w => guard_bool w) fun w => by
    simp only [binOp]
    simp [Op.equal, Op.maxDepth, equalIn_bool w 9999 ht m n]
theorem op_un_of {op : UnOp} {X : Value} (r : Value) (hx : E x = .d (.v X)) (hp : plain r = true) (hr : ∀ w, (Op.unary op X).run P w = .ok r w) : OpR P ⟨dst, .unOp op t x, ty, pos, after, gd⟩ E H (Ret (.d (.v r)) H) :=
  opR_pure fun c w a _ hops => by
    have h1 := hops x (by simp [Op.operands])
    rw [hx] at h1
    have e1 := h1.v_eq
    refine ⟨r, ?_, .d (.v r hp)⟩
    simp [execOp, e1, hr w]
theorem op_not {b : Bool} (hx : E x = .d (.v (.bool b))) : OpR P ⟨dst, .unOp .not t x, ty, pos, after, gd⟩ E H (Ret (.d (TF (!b))) H) := op_un_of _ hx rfl fun w => by simp [Op.unary]
theorem op_neg {r : Int} (hx : E x = .d (.v (.int k m))) (hr : k.wrap (0 - m) = r) : OpR P ⟨dst, .unOp .neg t x, ty, pos, after, gd⟩ E H (Ret (.d (.v (.int k r))) H) :=
  op_un_of _ hx rfl fun w => by rw [← hr]; rfl
theorem op_convI {k' : IntKind} {r : Int} (hs : (P.underlying t).isSome = true) (hd : P.underlying t' = some (.int k')) (hx : E x = .d (.v (.int k m))) (hr : k'.wrap m = r) : OpR P ⟨dst, .convert t t' x, ty, pos, after, gd⟩ E H (Ret (.d (.v (.int k' r))) H) :=
  opR_pure fun c w a _ hops => by
    have h1 := hops x (by simp [Op.operands])
    rw [hx] at h1
    have e1 := h1.v_eq
    refine ⟨.int k' r, ?_, .d (.v _ rfl)⟩
    obtain ⟨d, hd'⟩ := Option.isSome_iff_exists.1 hs
    simp [execOp, e1, convert, run_underlying hd, run_underlying hd', Conv.intToInt, hr]
theorem op_convSS {l : List UInt8} (hs : (P.underlying t).isSome = true) (hd : P.underlying t' = some .string) (hx : E x = .d (S l)) : OpR P ⟨dst, .convert t t' x, ty, pos, after, gd⟩ E H (Ret (.d (S l)) H) :=
  opR_pure fun c w a _ hops => by
    have h1 := hops x (by simp [Op.operands])
    rw [hx] at h1
    have e1 := h1.v_eq
    refine ⟨_, ?_, .d (.v _ rfl)⟩
    obtain ⟨d, hd'⟩ := Option.isSome_iff_exists.1 hs
    simp [execOp, e1, convert, run_underlying hd, run_underlying hd']
end
/-- min, max of two numbers. -/
theorem op_max {x y : Operand} {ts : Array TypeId} {k k' : IntKind} {m n : Int} (hx : E x = .d (.v (.int k m))) (hy : E y = .d (.v (.int k' n))) :
    OpR P ⟨dst, .call ⟨.builtin .max, #[x, y], ts⟩, ty, pos, after, gd⟩ E H (Ret (.d (.v (.int k (if n > m then n else m)))) H) :=
  opR_pure fun c w a _ hops => by
    have h1 := hops x (by simp [Op.operands, Call.operands])
    have h2 := hops y (by simp [Op.operands, Call.operands])
    rw [hx] at h1
    rw [hy] at h2
    refine ⟨_, ?_, .d (.v _ rfl)⟩
    simp [execOp, resolve, invoke, builtin, h1.v_eq, h2.v_eq, Builtin.max_, Builtin.max2]
theorem op_min {x y : Operand} {ts : Array TypeId} {k k' : IntKind} {m n : Int} (hx : E x = .d (.v (.int k m))) (hy : E y = .d (.v (.int k' n))) :
    OpR P ⟨dst, .call ⟨.builtin .min, #[x, y], ts⟩, ty, pos, after, gd⟩ E H (Ret (.d (.v (.int k (if n < m then n else m)))) H) :=
  opR_pure fun c w a _ hops => by
    have h1 := hops x (by simp [Op.operands, Call.operands])
    have h2 := hops y (by simp [Op.operands, Call.operands])
    rw [hx] at h1
    rw [hy] at h2
    refine ⟨_, ?_, .d (.v _ rfl)⟩
    simp [execOp, resolve, invoke, builtin, h1.v_eq, h2.v_eq, Builtin.min_, Builtin.min2]
theorem op_pick {x y z : Operand} {b : Bool} (hx : E x = .d (.v (.bool b))) : OpR P ⟨dst, .pick x y z, ty, pos, after, gd⟩ E H (Ret (if b then E y else E z) H) :=
  opR_pure fun c w a _ hops => by
    have h1 := hops x (by simp [Op.operands])
    rw [hx] at h1
    cases b with
    | true => exact ⟨a.eval y, by simp [execOp, h1.v_eq, asBool], hops y (by simp [Op.operands])⟩
    | false => exact ⟨a.eval z, by simp [execOp, h1.v_eq, asBool], hops z (by simp [Op.operands])⟩

/-! ### Texts -/
theorem str_size (l : List UInt8) : (⟨l.toArray⟩ : ByteArray).size = l.length := by simp [ByteArray.size]
theorem op_lenS {x : Operand} {t : TypeId} {l : List UInt8} (ht : P.underlying t = some .string) (hx : E x = .d (S l)) : OpR P ⟨dst, .call ⟨.builtin .len, #[x], #[t]⟩, ty, pos, after, gd⟩ E H (Ret (.d (I l.length)) H) :=
  opR_pure fun c w a _ hops => by
    have h1 := hops x (by simp [Op.operands, Call.operands])
    rw [hx] at h1
    refine ⟨_, ?_, .d (.v _ rfl)⟩
    simp [execOp, resolve, invoke, builtin, h1.v_eq, Builtin.len_, run_underlying ht, goInt, str_size]
theorem op_indexS {x y : Operand} {t : TypeId} {k : IntKind} {l : List UInt8} {n : Int} {b : UInt8} (ht : P.underlying t = some .string) (hx : E x = .d (S l)) (hy : E y = .d (.v (.int k n))) (h0 : 0 ≤ n) (hb : l[n.toNat]? = some b) :
    OpR P ⟨dst, .index t x y, ty, pos, after, gd⟩ E H (Ret (.d (BY b)) H) :=
  opR_pure fun c w a _ hops => by
    have h1 := hops x (by simp [Op.operands])
    have h2 := hops y (by simp [Op.operands])
    rw [hx] at h1
    rw [hy] at h2
    refine ⟨_, ?_, .d (.v _ rfl)⟩
    have hlt : n.toNat < l.length := (List.getElem?_eq_some_iff.1 hb).1
    have hg : (⟨l.toArray⟩ : ByteArray)[n.toNat]? = some b := by
      have hs : n.toNat < (⟨l.toArray⟩ : ByteArray).size := by rw [str_size]; exact hlt
      rw [getElem?_pos (⟨l.toArray⟩ : ByteArray) n.toNat hs]
      have := (List.getElem?_eq_some_iff.1 hb).2
      simp [ByteArray.getElem_eq_getElem_data, this]
    simp [execOp, h1.v_eq, h2.v_eq, Instr.index, run_underlying ht, asIntOf, h0, hg]
theorem extract_str (l : List UInt8) (i j : Nat) : (⟨l.toArray⟩ : ByteArray).extract i j = ⟨((l.drop i).take (j - i)).toArray⟩ := by
  apply ByteArray.ext
  apply Array.ext'
  rw [Lib.extract_data]
theorem bound_ok {k : IntKind} {n : Int} {y : Nat} {code : BoundsCode} (w : World) (h0 : 0 ≤ n) (h1 : n ≤ y) : (Instr.sliceBound (.int k n) y code).run P w = .ok n.toNat w := by
  simp [Instr.sliceBound, asIntOf, h0, h1]
/-- s[i:j], s[i:], s[:j] -/
theorem op_sliceS2 {x y z : Operand} {t : TypeId} {k k' : IntKind} {l : List UInt8} {i j : Int} (r : List UInt8) (ht : P.underlying t = some .string) (hx : E x = .d (S l)) (hy : E y = .d (.v (.int k i))) (hz : E z = .d (.v (.int k' j))) (h0 : 0 ≤ i) (h1 : i ≤ j) (h2 : j ≤ l.length)
    (hr : (l.drop i.toNat).take (j.toNat - i.toNat) = r) : OpR P ⟨dst, .slice t x (some y) (some z) none, ty, pos, after, gd⟩ E H (Ret (.d (S r)) H) :=
  opR_pure fun c w a _ hops => by
    have q1 := hops x (by simp [Op.operands])
    have q2 := hops y (by simp [Op.operands])
    have q3 := hops z (by simp [Op.operands])
    rw [hx] at q1
    rw [hy] at q2
    rw [hz] at q3
    refine ⟨_, ?_, .d (.v _ rfl)⟩
    have e1 := bound_ok (P := P) (k := k') (y := l.length) (code := .sliceAlen) w (show 0 ≤ j by omega) h2
    have e2 := bound_ok (P := P) (k := k) (y := j.toNat) (code := .sliceB) w h0 (by omega)
    simp [execOp, q1.v_eq, q2.v_eq, q3.v_eq, Instr.sliceAt, Instr.slice, Instr.sliceBounds, run_underlying ht, str_size, e1, e2, extract_str, hr]
theorem op_sliceS1 {x y : Operand} {t : TypeId} {k : IntKind} {l : List UInt8} {i : Int} (r : List UInt8) (ht : P.underlying t = some .string) (hx : E x = .d (S l)) (hy : E y = .d (.v (.int k i))) (h0 : 0 ≤ i) (h2 : i ≤ l.length)
    (hr : l.drop i.toNat = r) : OpR P ⟨dst, .slice t x (some y) none none, ty, pos, after, gd⟩ E H (Ret (.d (S r)) H) :=
  opR_pure fun c w a _ hops => by
    have q1 := hops x (by simp [Op.operands])
    have q2 := hops y (by simp [Op.operands])
    rw [hx] at q1
    rw [hy] at q2
    refine ⟨_, ?_, .d (.v _ rfl)⟩
    have e2 := bound_ok (P := P) (k := k) (y := l.length) (code := .sliceB) w h0 h2
    have e3 : (l.drop i.toNat).take (l.length - i.toNat) = r := by rw [← hr]; exact List.take_of_length_le (by simp)
    simp [execOp, q1.v_eq, q2.v_eq, Instr.sliceAt, Instr.slice, Instr.sliceBounds, run_underlying ht, str_size, e2, extract_str, e3]
theorem op_sliceS0 {x z : Operand} {t : TypeId} {k' : IntKind} {l : List UInt8} {j : Int} (r : List UInt8) (ht : P.underlying t = some .string) (hx : E x = .d (S l)) (hz : E z = .d (.v (.int k' j))) (h0 : 0 ≤ j) (h2 : j ≤ l.length)
    (hr : l.take j.toNat = r) : OpR P ⟨dst, .slice t x none (some z) none, ty, pos, after, gd⟩ E H (Ret (.d (S r)) H) :=
  opR_pure fun c w a _ hops => by
    have q1 := hops x (by simp [Op.operands])
    have q3 := hops z (by simp [Op.operands])
    rw [hx] at q1
    rw [hz] at q3
    refine ⟨_, ?_, .d (.v _ rfl)⟩
    have e1 := bound_ok (P := P) (k := k') (y := l.length) (code := .sliceAlen) w h0 h2
    have e3 : (l.drop 0).take (j.toNat - 0) = r := by simpa using hr
    simp only [List.drop_zero, Nat.sub_zero] at e3
    simp [execOp, q1.v_eq, q3.v_eq, Instr.sliceAt, Instr.slice, Instr.sliceBounds, run_underlying ht, str_size, e1, extract_str, e3]

/-! ### Tuples, functions -/
theorem op_extract {x : Operand} {i : Nat} {cs : List AV} {v : AV} (hx : E x = .tup cs) (hv : cs[i]? = some v) : OpR P ⟨dst, .extract x i, ty, pos, after, gd⟩ E H (Ret v H) :=
  opR_pure fun c w a _ hops => by
    have h1 := hops x (by simp [Op.operands])
    rw [hx] at h1
    have hlt : i < cs.length := (List.getElem?_eq_some_iff.1 hv).1
    cases hq : a.eval x with
    | tuple vs =>
      rw [hq] at h1
      cases h1 with
      | tup _ _ hl h =>
      have h2 := h i hlt
      rw [(List.getElem?_eq_some_iff.1 hv).2] at h2
      refine ⟨vs.getD i undef, ?_, h2⟩
      have : i < vs.size := by omega
      simp [execOp, hq, Instr.extract, this]
    | _ => rw [hq] at h1; cases h1
theorem op_makeFunc {f : Fn} {first cap : Array Operand} : OpR P ⟨dst, .makeFunc f first cap, ty, pos, after, gd⟩ E H (Ret (.fn f (first.toList.map E) (cap.toList.map E)) H) :=
  opR_pure fun c w a _ hops => by
    refine ⟨_, rfl, .fn _ _ _ _ _ (by simp) (fun i hi => ?_) (by simp) (fun i hi => ?_)⟩
    · have hi' : i < first.size := by simpa using hi
      have := hops first[i] (by simp [Op.operands])
      simpa [hi'] using this
    · have hi' : i < cap.size := by simpa using hi
      have := hops cap[i] (by simp [Op.operands])
      simpa [hi'] using this

/-! ### Pointers -/
def notAgg : TypeDesc → Bool
  | .struct _ => false
  | .array _ _ => false
  | _ => true
theorem run_isAgg {t : TypeId} {d : TypeDesc} (ht : P.underlying t = some d) (w : World) : (isAgg t).run P w = .ok (!notAgg d) w := by
  unfold isAgg
  rw [Sem.run_bind, run_underlying ht w]
  cases d <;> rfl
theorem run_sizeOf {t : TypeId} {n : Nat} (h : (P.info? t).map (·.size) = some n) (w : World) : (sizeOf t).run P w = .ok n w := by
  obtain ⟨i, h1, h2⟩ := Option.map_eq_some_iff.1 h
  simp [sizeOf, typeInfo, h1, h2]
theorem run_load_one {t : TypeId} {d : TypeDesc} (ht : P.underlying t = some d) (hd : notAgg d = true) {g o : Nat} {v : Value} (w : World) (h : w.cell? ⟨g, o, none⟩ = some v) : (loadVar t ⟨g, o, none⟩).run P w = .ok v w := by
  simp [loadVar, run_isAgg ht, hd, load, Sem.run, h]
theorem run_load_agg {t : TypeId} {d : TypeDesc} (ht : P.underlying t = some d) (hd : notAgg d = false) {n : Nat} (hn : (P.info? t).map (·.size) = some n) {g o : Nat} (cs : List Value) (hl : cs.length = n) (w : World) (h : ∀ j u, cs[j]? = some u → w.cell? ⟨g, o + j, none⟩ = some u) :
    (loadVar t ⟨g, o, none⟩).run P w = .ok (.agg cs.toArray) w := by
  have hc := run_loadCells_list (P := P) w ⟨g, o, none⟩ cs (fun j v hv => by rw [addr_add]; exact h j v hv)
  rw [hl] at hc
  simp [loadVar, run_isAgg ht, hd, run_sizeOf hn, hc]
theorem Rep.elt_inv {c : Ctx} {x : Value} {cs : List DV} (h : Rep c x (.elt cs)) : ∃ (g o : Nat) (us : Nat → Value), x = .pointer (some ⟨g, o, none⟩) ∧ (∀ y ∈ cs, y.one = true) ∧ (∀ i, i < cs.length → c.mem g (o + i) = some (us i)) ∧ ∀ i (hi : i < cs.length), RepD c.mem (us i) cs[i] := by
  cases h with
  | elt g o cs us h1 hm h => exact ⟨g, o, us, rfl, h1, hm, h⟩
theorem Rep.ptr_inv {c : Ctx} {x : Value} {id off : Nat} (h : Rep c x (.ptr id off)) : ∃ g, x = .pointer (some ⟨g, off, none⟩) ∧ c.blk[id]? = some g := by
  cases h with
  | ptr id off g h => exact ⟨g, rfl, h⟩
/-- A read of one cell of what is protected. -/
theorem op_load_elt {x : Operand} {t : TypeId} {d : TypeDesc} {cs : List DV} {y : DV} (ht : P.underlying t = some d) (hd : notAgg d = true) (hx : E x = .elt cs) (hy : cs[0]? = some y) : OpR P ⟨dst, .load t x, ty, pos, after, gd⟩ E H (Ret (.d y) H) :=
  opR_pure fun c w a hm hops => by
    have h1 := hops x (by simp [Op.operands])
    rw [hx] at h1
    obtain ⟨g, o, us, e, hone, hmem, hrep⟩ := h1.elt_inv
    have hlt : 0 < cs.length := (List.getElem?_eq_some_iff.1 hy).1
    have hr := hrep 0 hlt
    rw [(List.getElem?_eq_some_iff.1 hy).2] at hr
    refine ⟨us 0, ?_, .d hr⟩
    have hc := hm g o (us 0) (by simpa using hmem 0 hlt)
    simp [execOp, e, Instr.loadAt, Instr.sureAddr, run_load_one ht hd w hc]
theorem op_load_elts {x : Operand} {t : TypeId} {d : TypeDesc} {cs ds : List DV} {n : Nat} (ht : P.underlying t = some d) (hd : notAgg d = false) (hn : (P.info? t).map (·.size) = some n) (hx : E x = .elt cs) (hl : n ≤ cs.length) (hds : cs.take n = ds) :
    OpR P ⟨dst, .load t x, ty, pos, after, gd⟩ E H (Ret (.d (.agg ds)) H) :=
  opR_pure fun c w a hm hops => by
    have h1 := hops x (by simp [Op.operands])
    rw [hx] at h1
    obtain ⟨g, o, us, e, hone, hmem, hrep⟩ := h1.elt_inv
    subst hds
    refine ⟨.agg ((List.range n).map us).toArray, ?_, .d (.agg _ _ (by simp [hl]) (fun y hy => hone y (List.mem_of_mem_take hy)) fun i hi => ?_)⟩
    · have := run_load_agg (P := P) ht hd hn (g := g) (o := o) ((List.range n).map us) (by simp) w (fun j u hu => by
        have hj : j < n := by have := (List.getElem?_eq_some_iff.1 hu).1; simpa using this
        have : u = us j := by simp [hj] at hu; exact hu.symm
        subst this
        exact hm _ _ _ (hmem j (by omega)))
      simp [execOp, e, Instr.loadAt, Instr.sureAddr, this]
    · have hi' : i < n := by simp at hi; omega
      have := hrep i (by omega)
      simpa [hi'] using this
/-- A read of what is exact. -/
theorem Inv.cell {B : Nat} {w0 w : World} {c : Ctx} (h : Inv B w0 c H w) {id g : Nat} (hg : c.blk[id]? = some g) {b : HB} (hb : H.blks[id]? = some b) {off : Nat} {v : AV} (hv : b.cs[off]? = some v) : ∃ u, w.cell? ⟨g, off, none⟩ = some u ∧ Rep c u v := by
  obtain ⟨_, _, cur, fr, hw, hl, _, hr⟩ := h.blk id g b hg hb
  have hlt : off < b.cs.length := (List.getElem?_eq_some_iff.1 hv).1
  have h1 := hr off hlt
  rw [(List.getElem?_eq_some_iff.1 hv).2] at h1
  have hs : off < cur.size := by omega
  exact ⟨cur.getD off undef, by simp [World.cell?, hw, hs], h1⟩
theorem op_load_ptr {x : Operand} {t : TypeId} {d : TypeDesc} {id off : Nat} {b : HB} {v : AV} (ht : P.underlying t = some d) (hd : notAgg d = true) (hx : E x = .ptr id off) (hb : H.blks[id]? = some b) (hv : b.cs[off]? = some v) :
    OpR P ⟨dst, .load t x, ty, pos, after, gd⟩ E H (Ret v H) :=
  opR_value fun B w0 c w a hI hops => by
    have h1 := hops x (by simp [Op.operands])
    rw [hx] at h1
    obtain ⟨g, e, hg⟩ := h1.ptr_inv
    obtain ⟨u, hc, hr⟩ := hI.cell hg hb hv
    refine ⟨u, w, c, v, H, ?_, Le.refl c, hr, hI, rfl, rfl⟩
    simp [execOp, e, Instr.loadAt, Instr.sureAddr, run_load_one ht hd w hc]
theorem op_load_ptrs {x : Operand} {t : TypeId} {d : TypeDesc} {id off n : Nat} {b : HB} {vs : List AV} (ht : P.underlying t = some d) (hd : notAgg d = false) (hn : (P.info? t).map (·.size) = some n) (hx : E x = .ptr id off) (hb : H.blks[id]? = some b)
    (hl : off + n ≤ b.cs.length) (hvs : (b.cs.drop off).take n = vs) : OpR P ⟨dst, .load t x, ty, pos, after, gd⟩ E H (Ret (.agg vs) H) :=
  opR_value fun B w0 c w a hI hops => by
    have h1 := hops x (by simp [Op.operands])
    rw [hx] at h1
    obtain ⟨g, e, hg⟩ := h1.ptr_inv
    subst hvs
    have hall : ∀ j, j < n → ∃ u, w.cell? ⟨g, off + j, none⟩ = some u ∧ ∃ v, b.cs[off + j]? = some v ∧ Rep c u v := fun j hj => by
      have hlt : off + j < b.cs.length := by omega
      obtain ⟨u, h2, h3⟩ := hI.cell hg hb (List.getElem?_eq_getElem hlt)
      exact ⟨u, h2, _, List.getElem?_eq_getElem hlt, h3⟩
    let f : Nat → Value := fun j => (w.cell? ⟨g, off + j, none⟩).getD undef
    refine ⟨.agg ((List.range n).map f).toArray, w, c, _, H, ?_, Le.refl c, .agg _ _ (by simp; omega) (fun i hi => ?_), hI, rfl, rfl⟩
    · have := run_load_agg (P := P) ht hd hn (g := g) (o := off) ((List.range n).map f) (by simp) w (fun j u hu => by
        have hj : j < n := by have := (List.getElem?_eq_some_iff.1 hu).1; simpa using this
        have : u = f j := by simp [hj] at hu; exact hu.symm
        subst this
        obtain ⟨u, h2, _⟩ := hall j hj
        simp [f, h2])
      simp [execOp, e, Instr.loadAt, Instr.sureAddr, this]
    · have hi' : i < n := by simp at hi; omega
      obtain ⟨u, h2, v, h3, h4⟩ := hall i hi'
      have e1 : (((List.range n).map f).toArray).getD i undef = u := by simp [hi', f, h2]
      rw [e1]
      have e2 : ((b.cs.drop off).take n)[i] = v := by
        rw [List.getElem_take, List.getElem_drop]
        have := (List.getElem?_eq_some_iff.1 h3).2
        exact this
      rw [e2]
      exact h4
theorem op_fieldAddr_elt {x : Operand} {t : TypeId} {i : Nat} {fs : Array Field} {f : Field} {n : Nat} {cs ds : List DV} (ht : P.underlying t = some (.struct fs)) (hf : fs[i]? = some f) (hn : (P.info? f.type).map (·.size) = some n) (hn0 : (n == 0) = false) (hx : E x = .elt cs)
    (hds : cs.drop f.offset = ds) : OpR P ⟨dst, .fieldAddr t x i, ty, pos, after, gd⟩ E H (Ret (.elt ds) H) :=
  opR_pure fun c w a hm hops => by
    have h1 := hops x (by simp [Op.operands])
    rw [hx] at h1
    obtain ⟨g, o, us, e, hone, hmem, hrep⟩ := h1.elt_inv
    subst hds
    have hn0' : n ≠ 0 := by simpa using hn0
    refine ⟨.pointer (some ⟨g, o + f.offset, none⟩), ?_, .elt g (o + f.offset) _ (fun j => us (f.offset + j)) (fun y hy => hone y (List.mem_of_mem_drop hy)) (fun j hj => ?_) (fun j hj => ?_)⟩
    · simp [execOp, e, Instr.fieldAt, run_underlying ht, hf, Instr.sureAddr, fieldPlace, run_sizeOf hn, hn0', addr_add]
    · simp at hj
      rw [Nat.add_assoc]
      exact hmem (f.offset + j) (by omega)
    · simp at hj
      rw [List.getElem_drop]
      exact hrep (f.offset + j) (by omega)
theorem op_fieldAddr_ptr {x : Operand} {t : TypeId} {i : Nat} {fs : Array Field} {f : Field} {n id off : Nat} (ht : P.underlying t = some (.struct fs)) (hf : fs[i]? = some f) (hn : (P.info? f.type).map (·.size) = some n) (hn0 : (n == 0) = false) (hx : E x = .ptr id off) :
    OpR P ⟨dst, .fieldAddr t x i, ty, pos, after, gd⟩ E H (Ret (.ptr id (off + f.offset)) H) :=
  opR_pure fun c w a hm hops => by
    have h1 := hops x (by simp [Op.operands])
    rw [hx] at h1
    obtain ⟨g, e, hg⟩ := h1.ptr_inv
    have hn0' : n ≠ 0 := by simpa using hn0
    refine ⟨.pointer (some ⟨g, off + f.offset, none⟩), ?_, .ptr id _ g hg⟩
    simp [execOp, e, Instr.fieldAt, run_underlying ht, hf, Instr.sureAddr, fieldPlace, run_sizeOf hn, hn0', addr_add]
theorem op_nilCheck_ptr {x : Operand} {id off : Nat} (hx : E x = .ptr id off) : OpR P ⟨dst, .nilCheck x, ty, pos, after, gd⟩ E H (Ret (.ptr id off) H) :=
  opR_pure fun c w a hm hops => by
    have h1 := hops x (by simp [Op.operands])
    rw [hx] at h1
    obtain ⟨g, e, hg⟩ := h1.ptr_inv
    exact ⟨_, by simp [execOp, e], .ptr id _ g hg⟩
theorem op_nilCheck_elt {x : Operand} {cs : List DV} (hx : E x = .elt cs) : OpR P ⟨dst, .nilCheck x, ty, pos, after, gd⟩ E H (Ret (.elt cs) H) :=
  opR_pure fun c w a hm hops => by
    have h1 := hops x (by simp [Op.operands])
    rw [hx] at h1
    obtain ⟨g, o, us, e, hone, hmem, hrep⟩ := h1.elt_inv
    exact ⟨.pointer (some ⟨g, o, none⟩), by simp [execOp, e], by rw [← e]; exact h1⟩
theorem op_ptr_nil {x y : Operand} {t t' el : TypeId} {id off : Nat} (ht : P.underlying t = some (.pointer el)) (hx : E x = .ptr id off) (hy : E y = .d (.v (.pointer none))) : OpR P ⟨dst, .binOp .eql t x y t', ty, pos, after, gd⟩ E H (Ret (.d (TF false)) H) :=
  opR_pure fun c w a hm hops => by
    have h1 := hops x (by simp [Op.operands])
    have h2 := hops y (by simp [Op.operands])
    rw [hx] at h1
    rw [hy] at h2
    obtain ⟨g, e, hg⟩ := h1.ptr_inv
    refine ⟨.bool false, ?_, .d (.v _ rfl)⟩
    have hb : (binOp .eql t (.pointer (some ⟨g, off, none⟩)) (.pointer none)).run P w = .ok (.bool false) w := by
      simp only [binOp]
      simp [Op.equal, Op.maxDepth, equalIn_ptr w 9999 ht]
    simp [execOp, e, h2.v_eq, eqGuard, hb]
theorem op_ptr_some {x y : Operand} {t t' el : TypeId} {id off : Nat} (ht : P.underlying t = some (.pointer el)) (hx : E x = .ptr id off) (hy : E y = .d (.v (.pointer none))) : OpR P ⟨dst, .binOp .neq t x y t', ty, pos, after, gd⟩ E H (Ret (.d (TF true)) H) :=
  opR_pure fun c w a hm hops => by
    have h1 := hops x (by simp [Op.operands])
    have h2 := hops y (by simp [Op.operands])
    rw [hx] at h1
    rw [hy] at h2
    obtain ⟨g, e, hg⟩ := h1.ptr_inv
    refine ⟨.bool true, ?_, .d (.v _ rfl)⟩
    have hb : (binOp .neq t (.pointer (some ⟨g, off, none⟩)) (.pointer none)).run P w = .ok (.bool true) w := by
      simp only [binOp]
      simp [Op.equal, Op.maxDepth, equalIn_ptr w 9999 ht]
    simp [execOp, e, h2.v_eq, eqGuard, hb]

end
end Go.AV
