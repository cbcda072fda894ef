/-
  Plain theory of layer 1 (octet): numbers, texts and flags as bytes, and read again.
-/
import Derived.Test.YtjamnhofbkgblaaOrdPlain
namespace Go.AV.Oct
open Go.AV.Ord
/-- How many bytes a number takes. -/
def szN (x : Nat) : Nat := if h : x = 0 then 0 else szN (x / 256) + 1
termination_by x
decreasing_by omega
theorem szN_zero : szN 0 = 0 := by unfold szN; rfl
theorem szN_pos {x : Nat} (h : x ≠ 0) : szN x = szN (x / 256) + 1 := by rw [szN]; simp [h]
theorem szN_le : ∀ (k x : Nat), x < 256 ^ k → szN x ≤ k
  | 0, x, h => by have : x = 0 := by simpa using h
                  subst this; rw [szN_zero]; exact Nat.le_refl _
  | k + 1, x, h => by
    by_cases hx : x = 0
    · subst hx; rw [szN_zero]; omega
    · rw [szN_pos hx]
      have := szN_le k (x / 256) (by rw [Nat.pow_succ] at h; omega)
      omega
theorem lt_szN : ∀ (n x : Nat), x ≤ n → x < 256 ^ szN x
  | 0, x, h => by have : x = 0 := by omega
                  subst this; rw [szN_zero]; decide
  | n + 1, x, h => by
    by_cases hx : x = 0
    · subst hx; rw [szN_zero]; decide
    · rw [szN_pos hx, Nat.pow_succ]
      have := lt_szN n (x / 256) (by omega)
      omega
theorem szN_lt (x : Nat) : x < 256 ^ szN x := lt_szN x x (Nat.le_refl _)
theorem szN_ge : ∀ (n x : Nat), x ≤ n → x ≠ 0 → 256 ^ (szN x - 1) ≤ x
  | 0, x, h, hx => by omega
  | n + 1, x, h, hx => by
    rw [szN_pos hx]
    by_cases h2 : x / 256 = 0
    · rw [h2, szN_zero]; simp; omega
    · have h3 := szN_ge n (x / 256) (by omega) h2
      have h4 : szN (x / 256) ≠ 0 := by rw [szN_pos h2]; omega
      obtain ⟨m, hm⟩ : ∃ m, szN (x / 256) = m + 1 := ⟨szN (x / 256) - 1, by omega⟩
      rw [hm] at h3 ⊢
      simp only [Nat.add_sub_cancel] at h3 ⊢
      rw [Nat.pow_succ]
      omega
theorem szN_top {x : Nat} (h : x ≠ 0) : 256 ^ (szN x - 1) ≤ x := szN_ge x x (Nat.le_refl _) h
def numB (x : Nat) : List UInt8 := UInt8.ofNat (szN x) :: be (szN x) x
def textB (s : List UInt8) : List UInt8 := numB s.length ++ s
def flagB (b : Bool) : List UInt8 := [if b then 1 else 0]
theorem numB_len (x : Nat) : (numB x).length = szN x + 1 := by simp [numB, be_len]
/-- A reader: what is left, and whether it has failed. -/
abbrev RS := List UInt8 × Bool
def badN (s : List UInt8) : Bool := match s with
  | [] => true
  | c :: r => decide (8 < c.toNat) || decide (r.length < c.toNat) || (decide (0 < c.toNat) && (r.headD 0 == 0))
def rNum (most : Int) (st : RS) : Nat × RS :=
  if st.2 then (0, st) else if badN st.1 then (0, ([], true)) else
    let n := (st.1.headD 0).toNat
    let x := val ((st.1.drop 1).take n)
    if (max most 0) < (x : Int) then (0, ([], true)) else (x, (st.1.drop (1 + n), false))
def rText (most : Int) (st : RS) : List UInt8 × RS :=
  let r := rNum most st
  if r.2.2 then ([], r.2) else if r.2.1.length < r.1 then ([], ([], true)) else (r.2.1.take r.1, (r.2.1.drop r.1, false))
def rFlag (st : RS) : Bool × RS :=
  if st.2 then (false, st) else match st.1 with
    | [] => (false, ([], true))
    | c :: r => if 1 < c.toNat then (false, ([], true)) else (c == 1, (r, false))
def rErr (st : RS) : Int := if st.2 then 2 else 0
def rEnd (st : RS) : Int := if 0 < st.1.length then 2 else rErr st
end Go.AV.Oct
