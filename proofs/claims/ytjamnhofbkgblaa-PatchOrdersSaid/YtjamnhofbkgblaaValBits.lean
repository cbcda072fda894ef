/-
  Numbers with and without signs, bit by bit.
-/
import Derived.Test.YtjamnhofbkgblaaValPlain
namespace Go.AV.Val
open Go.AV.Ord Go.AV.Oct
theorem ofInt_u {k : IntKind} (hb : k.bits = 64) {m : Nat} (h : m < 18446744073709551616) : (BitVec.ofInt k.bits (m : Int)).toNat = m := by
  rw [BitVec.toNat_ofInt, hb]
  omega
theorem shl32 {a : Nat} (h : a ≤ 4294967295) : IntKind.u64.wrap ((a : Int) * 2 ^ (min (32 : Int).toNat IntKind.u64.bits)) = ((a * 4294967296 : Nat) : Int) := by
  have e : (2 : Int) ^ (min (32 : Int).toNat IntKind.u64.bits) = 4294967296 := by decide
  rw [e, wrap_u64 (by omega)]
  omega
theorem or32 {a b : Nat} (ha : a ≤ 4294967295) (hb : b ≤ 4294967295) : IntKind.u64.wrap ((BitVec.ofInt IntKind.u64.bits ((a * 4294967296 : Nat) : Int) ||| BitVec.ofInt IntKind.u64.bits (b : Int)).toNat : Int) = ((a * 4294967296 + b : Nat) : Int) := by
  rw [BitVec.toNat_or, ofInt_u rfl (by omega), ofInt_u rfl (by omega), show a * 4294967296 = 2 ^ 32 * a by omega, ← Nat.two_pow_add_eq_or_of_lt (by omega), wrap_u64 (by omega)]
theorem and1 {x : Nat} (h : x < 18446744073709551616) : IntKind.u64.wrap ((BitVec.ofInt IntKind.u64.bits (x : Int) &&& BitVec.ofInt IntKind.u64.bits 1).toNat : Int) = ((x % 2 : Nat) : Int) := by
  have e : (BitVec.ofInt IntKind.u64.bits 1).toNat = 2 ^ 1 - 1 := by decide
  rw [BitVec.toNat_and, ofInt_u rfl h, e, Nat.and_two_pow_sub_one_eq_mod, wrap_u64 (by omega)]
theorem and32 {x : Nat} (h : x < 18446744073709551616) : IntKind.u64.wrap ((BitVec.ofInt IntKind.u64.bits (x : Int) &&& BitVec.ofInt IntKind.u64.bits 4294967295).toNat : Int) = ((x % 4294967296 : Nat) : Int) := by
  have e : (BitVec.ofInt IntKind.u64.bits 4294967295).toNat = 2 ^ 32 - 1 := by decide
  rw [BitVec.toNat_and, ofInt_u rfl h, e, Nat.and_two_pow_sub_one_eq_mod, wrap_u64 (by omega)]
theorem shr1 (x : Nat) : (x : Int).fdiv (2 ^ (min (1 : Int).toNat IntKind.u64.bits)) = ((x / 2 : Nat) : Int) := by
  have e : (2 : Int) ^ (min (1 : Int).toNat IntKind.u64.bits) = 2 := by decide
  rw [e, Int.fdiv_eq_ediv_of_nonneg _ (by decide)]
  omega
theorem shr32 (x : Nat) : (x : Int).fdiv (2 ^ (min (32 : Int).toNat IntKind.u64.bits)) = ((x / 4294967296 : Nat) : Int) := by
  have e : (2 : Int) ^ (min (32 : Int).toNat IntKind.u64.bits) = 4294967296 := by decide
  rw [e, Int.fdiv_eq_ediv_of_nonneg _ (by decide)]
  omega
theorem xor_neg1 {m : Nat} (h : m < 18446744073709551616) : m ^^^ 18446744073709551615 = 18446744073709551615 - m := by
  have h1 : (18446744073709551615 : Nat) = 2 ^ 64 - 1 := by decide
  have h2 : BitVec.toNat (~~~ (BitVec.ofNat 64 m)) = 2 ^ 64 - 1 - m := by
    rw [BitVec.toNat_not, BitVec.toNat_ofNat, Nat.mod_eq_of_lt (by omega)]
  have h3 : (BitVec.ofNat 64 m ^^^ BitVec.allOnes 64) = ~~~ (BitVec.ofNat 64 m) := BitVec.xor_allOnes
  rw [← h3, BitVec.toNat_xor, BitVec.toNat_ofNat, BitVec.toNat_allOnes, Nat.mod_eq_of_lt (by omega)] at h2
  rw [h1]; exact h2
theorem unzig_bits {x : Nat} (h : x < 18446744073709551616) : IntKind.i64.wrap ((BitVec.ofInt IntKind.i64.bits ((x / 2 : Nat) : Int) ^^^ BitVec.ofInt IntKind.i64.bits (0 - ((x % 2 : Nat) : Int))).toNat : Int) = unzig x := by
  have e1 : (BitVec.ofInt IntKind.i64.bits ((x / 2 : Nat) : Int)).toNat = x / 2 := ofInt_u rfl (by omega)
  rw [BitVec.toNat_xor, e1]
  have h2 : x % 2 = 0 ∨ x % 2 = 1 := by omega
  unfold unzig
  rcases h2 with h2 | h2
  · rw [h2]
    have e2 : (BitVec.ofInt IntKind.i64.bits (0 - ((0 : Nat) : Int))).toNat = 0 := by decide
    rw [e2, Nat.xor_zero, wrap_i64 ⟨by omega, by omega⟩]
    simp
  · rw [h2]
    have e2 : (BitVec.ofInt IntKind.i64.bits (0 - ((1 : Nat) : Int))).toNat = 18446744073709551615 := by decide
    rw [e2, xor_neg1 (by omega), IntKind.wrap_i64]
    simp
    omega
theorem neg_small {x : Nat} (h : x ≤ 1) : IntKind.i64.wrap (0 - (x : Int)) = 0 - (x : Int) := wrap_i64 ⟨by omega, by omega⟩
theorem zig_bits {n : Int} (h : i64 n) : IntKind.u64.wrap ((BitVec.ofInt IntKind.u64.bits (IntKind.u64.wrap (IntKind.u64.wrap n * 2 ^ (min (1 : Int).toNat IntKind.u64.bits))) ^^^ BitVec.ofInt IntKind.u64.bits (IntKind.u64.wrap (n.fdiv (2 ^ (min (63 : Int).toNat IntKind.i64.bits))))).toNat : Int) = (zigN n : Int) := by
  unfold i64 at h
  have e : (2 : Int) ^ (min (1 : Int).toNat IntKind.u64.bits) = 2 := by decide
  have e' : (2 : Int) ^ (min (63 : Int).toNat IntKind.i64.bits) = 9223372036854775808 := by decide
  rw [e, e', Int.fdiv_eq_ediv_of_nonneg _ (by decide)]
  unfold zigN
  by_cases h0 : 0 ≤ n
  · rw [if_pos h0, show n / 9223372036854775808 = 0 by omega]
    have e1 : IntKind.u64.wrap (IntKind.u64.wrap n * 2) = ((2 * n.toNat : Nat) : Int) := by rw [wrap_u64 (n := n) (by omega), wrap_u64 (by omega)]; omega
    have e2 : (BitVec.ofInt IntKind.u64.bits (IntKind.u64.wrap 0)).toNat = 0 := by decide
    rw [BitVec.toNat_xor, e1, ofInt_u rfl (by omega), e2, Nat.xor_zero, wrap_u64 (by omega)]
  · rw [if_neg h0, show n / 9223372036854775808 = -1 by omega]
    have e1 : IntKind.u64.wrap (IntKind.u64.wrap n * 2) = ((18446744073709551616 - 2 * (-n).toNat : Nat) : Int) := by rw [wrapU, wrapU]; omega
    have e2 : (BitVec.ofInt IntKind.u64.bits (IntKind.u64.wrap (-1))).toNat = 18446744073709551615 := by decide
    rw [BitVec.toNat_xor, e1, ofInt_u rfl (by omega), e2, xor_neg1 (by omega), wrap_u64 (by omega)]
    omega
theorem conv_kind {k : Int} (h : 0 ≤ k) (h' : k ≤ 5) : IntKind.u8.wrap k = ((UInt8.ofNat k.toNat).toNat : Int) := by
  rw [ofNat_toNat (by omega), wrap_u8 ⟨by omega, by omega⟩]
  omega
end Go.AV.Val
