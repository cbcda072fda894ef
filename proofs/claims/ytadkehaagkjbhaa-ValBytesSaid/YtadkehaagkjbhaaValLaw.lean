/-
  Plain theory of layer 2 (val): what the laws ask.
-/
import Derived.Test.YtadkehaagkjbhaaValFew
namespace Go.AV.Val
open Go.AV.Ord Go.AV.Oct
theorem small_nest : ∀ n, SmallV (nestV n)
  | 0 => small_int 5
  | n + 1 => .mk _ _ _ _ _ _ (by simp) (by simp) (fun x h => by rcases List.mem_singleton.1 h with rfl; exact small_nest n) (fun _ h => by cases h)
theorem encO_nest {j : Nat} (h : j < 64) : encO (nestV j) = if j < 32 then (nestB j, 0) else ([], 1) := by
  unfold encO
  rw [right_nest, enc_nest, nest_len]
  by_cases hj : j < 32
  · rw [if_pos (by simpa using hj), if_neg (by omega), if_pos hj]
  · rw [if_neg (by simpa using hj), if_neg hj]
theorem decV_nest {j : Nat} (h : j < 64) : decV (nestB j) = if j < 32 then (nestV j, 0) else (V0, 3) := by
  by_cases hj : j < 32
  · rw [if_pos hj, ← enc_nest]
    exact decV_enc (by rw [right_nest]; simpa using hj) (wf_nest j) (by rw [enc_nest, nest_len]; omega)
  · rw [if_neg hj]
    have hd := rV_deep 32 j [] (by omega)
    rw [List.append_nil] at hd
    unfold decV
    rw [if_neg (by rw [nest_len]; omega)]
    simp only [hd]
    rfl
theorem and63 (n : Int) : ∃ m : Nat, m ≤ 63 ∧ IntKind.i64.wrap ((BitVec.ofInt IntKind.i64.bits n &&& BitVec.ofInt IntKind.i64.bits 63).toNat : Int) = (m : Int) := by
  refine ⟨(BitVec.ofInt IntKind.i64.bits n).toNat % 64, by omega, ?_⟩
  have e : (BitVec.ofInt IntKind.i64.bits 63).toNat = 2 ^ 6 - 1 := by decide
  rw [BitVec.toNat_and, e, Nat.and_two_pow_sub_one_eq_mod, wrap_i64 ⟨by omega, by omega⟩]
theorem encO_no {v : V} {bs : List UInt8} {e : Int} (h : encO v = (bs, e)) (hr : rightV 32 v = false) : bs = [] ∧ e = 1 := by
  unfold encO at h
  rw [if_neg (by simp [hr])] at h
  cases h; exact ⟨rfl, rfl⟩
theorem encO_long {v : V} {bs : List UInt8} {e : Int} (h : encO v = (bs, e)) (hr : rightV 32 v = true) (he : ¬ e = 0) : bs = [] ∧ e = 4 := by
  unfold encO at h
  rw [if_pos hr] at h
  split at h
  · cases h; exact ⟨rfl, rfl⟩
  · cases h; exact absurd rfl he
theorem encO_yes {v : V} {bs : List UInt8} {e : Int} (h : encO v = (bs, e)) (hr : rightV 32 v = true) (he : e = 0) : bs = encV v ∧ (encV v).length ≤ 4096 := by
  unfold encO at h
  rw [if_pos hr] at h
  split at h
  · cases h; cases he
  · cases h; exact ⟨rfl, by omega⟩
end Go.AV.Val
