/-
  Plain theory of layer 2 (val): what the laws ask.
-/
import Derived.Test.YtjamnhofbkgblaaValFew
namespace Go.AV.Val
open Go.AV.Ord Go.AV.Oct
theorem small_nest : ∀ n, SmallV (nestV n)
  | 0 => small_int 5
  | n + 1 => .mk _ _ _ _ _ _ (by simp) (by simp) (fun x h => by rcases List.mem_singleton.1 h with rfl; exact small_nest n) (fun _ h => by cases h)
theorem encO_nest {j : Nat} (h : j < 64) : encO (nestV j) = if j < 32 then (nestB j, 0) else ([], 1) := by
  unfold encO
  rw [right_nest, enc_nest, nest_len]
  by_cases hj : j < 32
  · rw [if_pos (by simpa using hj), if_neg (by omega), if_pos hj]
  · rw [if_neg (by simpa using hj), if_neg hj]
theorem decV_nest {j : Nat} (h : j < 64) : decV (nestB j) = if j < 32 then (nestV j, 0) else (V0, 3) := by
  by_cases hj : j < 32
  · rw [if_pos hj, ← enc_nest]
    exact decV_enc (by rw [right_nest]; simpa using hj) (wf_nest j) (by rw [enc_nest, nest_len]; omega)
  · rw [if_neg hj]
    have hd := rV_deep 32 j [] (by omega)
    rw [List.append_nil] at hd
    unfold decV
    rw [if_neg (by rw [nest_len]; omega)]
    simp only [hd]
    rfl
theorem and63 (n : Int) : ∃ m : Nat, m ≤ 63 ∧ IntKind.i64.wrap ((BitVec.ofInt IntKind.i64.bits n &&& BitVec.ofInt IntKind.i64.bits 63).toNat : Int) = (m : Int) := by
  refine ⟨(BitVec.ofInt IntKind.i64.bits n).toNat % 64, by omega, ?_⟩
  have e : (BitVec.ofInt IntKind.i64.bits 63).toNat = 2 ^ 6 - 1 := by decide
  rw [BitVec.toNat_and, e, Nat.and_two_pow_sub_one_eq_mod, wrap_i64 ⟨by omega, by omega⟩]
theorem encO_no {v : V} {bs : List UInt8} {e : Int} (h : encO v = (bs, e)) (hr : rightV 32 v = false) : bs = [] ∧ e = 1 := by
  unfold encO at h
  rw [if_neg (by simp [hr])] at h
  cases h; exact ⟨rfl, rfl⟩
theorem encO_long {v : V} {bs : List UInt8} {e : Int} (h : encO v = (bs, e)) (hr : rightV 32 v = true) (he : ¬ e = 0) : bs = [] ∧ e = 4 := by
  unfold encO at h
  rw [if_pos hr] at h
  split at h
  · cases h; exact ⟨rfl, rfl⟩
  · cases h; exact absurd rfl he
theorem encO_yes {v : V} {bs : List UInt8} {e : Int} (h : encO v = (bs, e)) (hr : rightV 32 v = true) (he : e = 0) : bs = encV v ∧ (encV v).length ≤ 4096 := by
  unfold encO at h
  rw [if_pos hr] at h
  split at h
  · cases h; cases he
  · cases h; exact ⟨rfl, by omega⟩
end Go.AV.Val
namespace Go.AV.Val
open Go.AV.Ord Go.AV.Oct
/-! ### Lists of numbers -/
def numsV (l : List Int) : V := ofList (l.map ofInt)
def cmpNs (a b : List Int) : Int := cmpL (a.map ofInt) (b.map ofInt)
theorem cmpNs_step {a b : List Int} {k : Nat} {x y : Int} (hx : a[k]? = some x) (hy : b[k]? = some y) : cmpNs (a.drop k) (b.drop k) = if x < y then -1 else if y < x then 1 else cmpNs (a.drop (k + 1)) (b.drop (k + 1)) := by
  rw [drop_one hx, drop_one hy]
  simp only [cmpNs, List.map_cons]
  rw [cmpL_cons, cmp_int]
  unfold cmpI
  by_cases h1 : x < y
  · simp [h1]
  · by_cases h2 : y < x
    · simp [h1, h2]
    · simp [h1, h2]
theorem cmpNs_end {a b : List Int} {k : Nat} (ha : k ≤ a.length) (hb : k ≤ b.length) (h : k = a.length ∨ k = b.length) : cmpNs (a.drop k) (b.drop k) = if a.length < b.length then -1 else if b.length < a.length then 1 else 0 := by
  unfold cmpNs
  rcases Nat.lt_trichotomy a.length b.length with h1 | h1 | h1
  · have hk : k = a.length := by omega
    subst hk
    obtain ⟨y, hy⟩ : ∃ y, b[a.length]? = some y := ⟨_, List.getElem?_eq_getElem h1⟩
    rw [List.drop_eq_nil_of_le (Nat.le_refl _), drop_one hy, List.map_nil, List.map_cons, cmpL_nc, if_pos h1]
  · rw [List.drop_eq_nil_of_le (show a.length ≤ k by omega), List.drop_eq_nil_of_le (show b.length ≤ k by omega), List.map_nil, cmpL_nn, if_neg (by omega), if_neg (by omega)]
  · have hk : k = b.length := by omega
    subst hk
    obtain ⟨y, hy⟩ : ∃ y, a[b.length]? = some y := ⟨_, List.getElem?_eq_getElem h1⟩
    rw [List.drop_eq_nil_of_le (Nat.le_refl b.length), drop_one hy, List.map_nil, List.map_cons, cmpL_cn, if_neg (by omega), if_pos h1]
theorem cmpNs_sgn : ∀ (a b : List Int), cmpNs a b = -1 ∨ cmpNs a b = 0 ∨ cmpNs a b = 1
  | [], [] => by simp [cmpNs, cmpL_nn]
  | [], _ :: _ => by simp [cmpNs, cmpL_nc]
  | _ :: _, [] => by simp [cmpNs, cmpL_cn]
  | x :: a, y :: b => by
    have ih := cmpNs_sgn a b
    simp only [cmpNs, List.map_cons] at ih ⊢
    rw [cmpL_cons, cmp_int]
    unfold cmpI
    by_cases h1 : x < y
    · simp [h1]
    · by_cases h2 : y < x
      · simp [h1, h2]
      · simpa [h1, h2] using ih
theorem cmp_nums (a b : List Int) : cmpV (numsV a) (numsV b) = cmpNs a b := by
  unfold numsV ofList
  rw [cmpV_mk]; rfl
theorem small_nums {a : List Int} (h : a.length ≤ 30) : SmallV (numsV a) :=
  .mk _ _ _ _ _ _ (by simp; omega) (by simp) (fun x hx => by obtain ⟨n, _, rfl⟩ := List.mem_map.1 hx; exact small_int n) (fun _ h => by cases h)
theorem right_nums (a : List Int) : rightV 32 (numsV a) = true := by
  have h : (a.map ofInt).all (rightV 31) = true := by
    rw [List.all_eq_true]
    intro x hx
    obtain ⟨n, _, rfl⟩ := List.mem_map.1 hx
    exact right_int 30 n
  show rightV (31 + 1) _ = true
  rw [rightV]
  simp only [numsV, ofList, V.fields, V.list, h, rises, Bool.and_true, List.all_nil]
  rfl
theorem small_bool (b : Bool) : SmallV (ofBool b) := .mk _ _ _ _ _ _ (by decide) (by decide) (fun _ h => by cases h) (fun _ h => by cases h)
theorem small_text (s : List UInt8) : SmallV (ofText s) := .mk _ _ _ _ _ _ (by decide) (by decide) (fun _ h => by cases h) (fun _ h => by cases h)
theorem cmp_bools : cmpV (ofBool false) (ofBool true) = -1 := by unfold ofBool; rw [cmpV_mk]; rfl
theorem cmp_numtext (a : List Int) (s : List UInt8) : cmpV (numsV a) (ofText s) = 1 := by unfold numsV ofList; rw [cmpV_mk]; rfl
end Go.AV.Val
namespace Go.AV.Val
theorem clamp_sgn (a b : Nat) : (if (if ((a : Int) - b) > -1 then ((a : Int) - b) else -1) < 1 then (if ((a : Int) - b) > -1 then ((a : Int) - b) else -1) else 1 : Int) = if a < b then -1 else if b < a then 1 else 0 := by
  (repeat' split) <;> omega
end Go.AV.Val
