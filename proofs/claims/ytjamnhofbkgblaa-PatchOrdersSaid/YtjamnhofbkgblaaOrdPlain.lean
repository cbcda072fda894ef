/-
  Plain laws of layer 3: texts and numbers laid such that their bytes have their order.
-/
import Derived.Test.YtjamnhofbkgblaaA10
namespace Go.AV.Ord
open Go.Op
def enc1 (c : UInt8) : List UInt8 := if c = 0 then [0, 255] else [c]
def enc0 (l : List UInt8) : List UInt8 := l.flatMap enc1
def encT (l : List UInt8) : List UInt8 := enc0 l ++ [0, 1]
theorem enc1_len (c : UInt8) : 1 ≤ (enc1 c).length ∧ (enc1 c).length ≤ 2 := by unfold enc1; split <;> simp
theorem enc0_len : ∀ l, l.length ≤ (enc0 l).length ∧ (enc0 l).length ≤ 2 * l.length
  | [] => by simp [enc0]
  | c :: l => by
    have h1 := enc1_len c
    have h2 := enc0_len l
    simp only [enc0, List.flatMap_cons, List.length_append, List.length_cons] at h2 ⊢
    omega
theorem encT_len (l : List UInt8) : (encT l).length = (enc0 l).length + 2 := by simp [encT]
theorem enc0_snoc (l : List UInt8) (c : UInt8) : enc0 (l ++ [c]) = enc0 l ++ enc1 c := by simp [enc0]
theorem take_snoc {α : Type} {l : List α} {k : Nat} {c : α} (h : l[k]? = some c) : l.take (k + 1) = l.take k ++ [c] := by
  rw [List.take_add_one, h]; rfl

/-! ### The order of bytes -/
theorem less_irrefl : ∀ a : List UInt8, bytesLess a a = false
  | [] => rfl
  | c :: a => by simp [bytesLess, less_irrefl a]
theorem less_append : ∀ (x m o : List UInt8), bytesLess (x ++ m) (x ++ o) = bytesLess m o
  | [], _, _ => rfl
  | c :: x, m, o => by simp [bytesLess, less_append x m o]
theorem less_total : ∀ {a b : List UInt8}, a ≠ b → bytesLess b a = !bytesLess a b
  | [], [], h => absurd rfl h
  | [], _ :: _, _ => by simp [bytesLess]
  | _ :: _, [], _ => by simp [bytesLess]
  | c :: a, d :: b, h => by
    by_cases hcd : c = d
    · subst hcd
      have := less_total (a := a) (b := b) (fun e => h (by rw [e]))
      simp [bytesLess, this]
    · have h1 : (c == d) = false := by simpa using hcd
      have h2 : (d == c) = false := by simpa using Ne.symm hcd
      have hn : c.toNat ≠ d.toNat := fun e => hcd (UInt8.toNat_inj.1 e)
      have h3 : decide (d < c) = !decide (c < d) := by
        by_cases hlt : c < d
        · have : ¬ d < c := by rw [UInt8.lt_iff_toNat_lt] at *; omega
          simp [hlt, this]
        · have : d < c := by rw [UInt8.lt_iff_toNat_lt] at *; omega
          simp [hlt, this]
      simp [bytesLess, h1, h2, h3]
theorem less_ne {a b : List UInt8} (h : bytesLess a b = true) : a ≠ b := by
  intro e; subst e; rw [less_irrefl] at h; cases h
theorem less_asymm {a b : List UInt8} (h : bytesLess a b = true) : bytesLess b a = false := by
  rw [less_total (less_ne h), h]; rfl
theorem less_trans : ∀ {a b c : List UInt8}, bytesLess a b = true → bytesLess b c = true → bytesLess a c = true
  | _, _, [], _, h => by cases ‹List UInt8› <;> simp [bytesLess] at h
  | [], _, _ :: _, _, _ => rfl
  | _ :: _, [], _, h, _ => by simp [bytesLess] at h
  | x :: a, y :: b, z :: c, h, k => by
    simp only [bytesLess, Bool.or_eq_true, decide_eq_true_eq, Bool.and_eq_true, beq_iff_eq] at h k ⊢
    rcases h with h | ⟨rfl, h⟩
    · rcases k with k | ⟨rfl, k⟩
      · exact .inl (by rw [UInt8.lt_iff_toNat_lt] at *; omega)
      · exact .inl h
    · rcases k with k | ⟨rfl, k⟩
      · exact .inl k
      · exact .inr ⟨rfl, less_trans h k⟩
/-- What is less within a part that both have. -/
theorem less_ext : ∀ {a b : List UInt8}, a.length = b.length → bytesLess a b = true → ∀ m o, bytesLess (a ++ m) (b ++ o) = true
  | [], [], _, h => by simp [bytesLess] at h
  | x :: a, y :: b, hl, h => by
    intro m o
    simp only [bytesLess, Bool.or_eq_true, decide_eq_true_eq, Bool.and_eq_true, beq_iff_eq, List.cons_append] at h ⊢
    rcases h with h | ⟨rfl, h⟩
    · exact .inl h
    · exact .inr ⟨rfl, less_ext (by simpa using hl) h m o⟩
  | [], _ :: _, hl, _ => by simp at hl
  | _ :: _, [], hl, _ => by simp at hl
theorem pos_of_ne {c : UInt8} (h : c ≠ 0) : 0 < c := by
  rw [UInt8.lt_iff_toNat_lt]
  have : c.toNat ≠ 0 := fun e => h (UInt8.toNat_inj.1 (by simpa using e))
  simpa using Nat.pos_of_ne_zero this
theorem not_lt_zero (c : UInt8) : ¬ c < 0 := by rw [UInt8.lt_iff_toNat_lt]; simp
/-- Texts in their order, whatever stands behind. -/
theorem encT_cons (c : UInt8) (l : List UInt8) : encT (c :: l) = enc1 c ++ encT l := by simp [encT, enc0]
theorem less_encT : ∀ {a b : List UInt8}, a ≠ b → ∀ m o, bytesLess (encT a ++ m) (encT b ++ o) = bytesLess a b
  | [], [], h, _, _ => absurd rfl h
  | [], d :: b, _, m, o => by
    rw [encT_cons]
    by_cases hd : d = 0
    · subst hd; simp [encT, enc0, enc1, bytesLess]
    · have := pos_of_ne hd
      simp [encT, enc0, enc1, bytesLess, hd, this]
  | c :: a, [], _, m, o => by
    rw [encT_cons]
    by_cases hc : c = 0
    · subst hc; simp [encT, enc0, enc1, bytesLess]
    · have := not_lt_zero c
      simp [encT, enc0, enc1, bytesLess, hc, this]
  | c :: a, d :: b, h, m, o => by
    rw [encT_cons, encT_cons]
    by_cases hcd : c = d
    · subst hcd
      rw [List.append_assoc, List.append_assoc, less_append, less_encT (fun e => h (by rw [e]))]
      simp [bytesLess]
    · have hb : (c == d) = false := by simpa using hcd
      by_cases hc : c = 0
      · subst hc
        have hd : d ≠ 0 := fun e => hcd e.symm
        have := pos_of_ne hd
        simp [enc1, bytesLess, hd, this]
      · by_cases hd : d = 0
        · subst hd
          have := not_lt_zero c
          simp [enc1, bytesLess, hc, hb, this]
        · simp [enc1, hc, hd, bytesLess, hb]
theorem encT_inj {a b : List UInt8} {m o : List UInt8} (h : encT a ++ m = encT b ++ o) : a = b := by
  by_cases hab : a = b
  · exact hab
  · have h1 := less_encT hab m o
    rw [h, less_irrefl] at h1
    have h2 := less_encT (Ne.symm hab) m m
    have h3 := less_total hab
    rw [← h1] at h3
    have h4 := less_encT (Ne.symm hab) o m
    rw [← h, less_irrefl] at h4
    rw [← h4] at h3
    simp at h3

/-- The order of two texts: -1, 0, 1. -/
def byL (a b : List UInt8) : Int := if bytesLess a b then -1 else if !(bytesLess a b || a == b) then 1 else 0
theorem byL_append (x m o : List UInt8) : byL (x ++ m) (x ++ o) = byL m o := by
  have : (x ++ m == x ++ o) = (m == o) := by
    rw [Bool.eq_iff_iff]
    simp only [beq_iff_eq]
    exact ⟨fun e => List.append_cancel_left e, fun e => by rw [e]⟩
  simp only [byL, less_append, this]
theorem byL_ne {a b x y : List UInt8} (h : a ≠ b) (h2 : x ≠ y) (hl : bytesLess x y = bytesLess a b) : byL x y = byL a b := by
  have e1 : (a == b) = false := by simpa using h
  have e2 : (x == y) = false := by simpa using h2
  simp only [byL, hl, e1, e2]
theorem byL_encT {a b : List UInt8} (h : a ≠ b) (m o : List UInt8) : byL (encT a ++ m) (encT b ++ o) = byL a b :=
  byL_ne h (fun e => h (encT_inj e)) (less_encT h m o)
theorem byL_self (a : List UInt8) : byL a a = 0 := by simp [byL, less_irrefl]
theorem byL_lt {a b : List UInt8} (h : bytesLess a b = true) : byL a b = -1 := by simp [byL, h]
theorem byL_gt {a b : List UInt8} (h : bytesLess b a = true) : byL a b = 1 := by
  have h1 := less_asymm h
  have h2 : (a == b) = false := by simpa using (less_ne h).symm
  simp [byL, h1, h2]

/-! ### Numbers -/
/-- k digits to the base 256, the highest one first. -/
def be : Nat → Nat → List UInt8
  | 0, _ => []
  | k + 1, x => UInt8.ofNat (x / 256 ^ k % 256) :: be k x
theorem be_len : ∀ k x, (be k x).length = k
  | 0, _ => rfl
  | k + 1, x => by simp [be, be_len k]
theorem be_mod (k : Nat) : ∀ j x, j ≤ k → be j (x % 256 ^ k) = be j x
  | 0, _, _ => rfl
  | j + 1, x, h => by
    have : x % 256 ^ k / 256 ^ j % 256 = x / 256 ^ j % 256 := by
      have e : (256 : Nat) ^ k = 256 ^ j * (256 * 256 ^ (k - (j + 1))) := by
        rw [← Nat.mul_assoc, ← Nat.pow_succ, ← Nat.pow_add]
        congr 1
        omega
      rw [e, Nat.mod_mul_right_div_self, Nat.mod_mul_right_mod]
    rw [be, be, this, be_mod k j x (by omega)]
theorem ofNat_lt {m n : Nat} (hm : m < 256) (hn : n < 256) : (UInt8.ofNat m < UInt8.ofNat n) ↔ m < n := by
  rw [UInt8.lt_iff_toNat_lt]
  simp [UInt8.toNat_ofNat', Nat.mod_eq_of_lt hm, Nat.mod_eq_of_lt hn]
theorem be_less : ∀ k x y, x < 256 ^ k → y < 256 ^ k → x < y → bytesLess (be k x) (be k y) = true
  | 0, x, y, hx, hy, h => by simp at hx hy; omega
  | k + 1, x, y, hx, hy, h => by
    have hp : 0 < 256 ^ k := Nat.pow_pos (by decide)
    have h1 : x / 256 ^ k < 256 := by rw [Nat.div_lt_iff_lt_mul hp]; rw [Nat.pow_succ] at hx; omega
    have h2 : y / 256 ^ k < 256 := by rw [Nat.div_lt_iff_lt_mul hp]; rw [Nat.pow_succ] at hy; omega
    have h3 : x / 256 ^ k ≤ y / 256 ^ k := Nat.div_le_div_right (Nat.le_of_lt h)
    simp only [be, bytesLess, Nat.mod_eq_of_lt h1, Nat.mod_eq_of_lt h2, Bool.or_eq_true, decide_eq_true_eq, Bool.and_eq_true, beq_iff_eq]
    by_cases he : x / 256 ^ k = y / 256 ^ k
    · refine .inr ⟨by rw [he], ?_⟩
      have hx' := be_mod k k x (Nat.le_refl _)
      have hy' := be_mod k k y (Nat.le_refl _)
      rw [← hx', ← hy']
      refine be_less k _ _ (Nat.mod_lt _ hp) (Nat.mod_lt _ hp) ?_
      have e1 := Nat.div_add_mod x (256 ^ k)
      have e2 := Nat.div_add_mod y (256 ^ k)
      rw [he] at e1
      omega
    · exact .inl ((ofNat_lt h1 h2).2 (by omega))
/-- A number with a sign as eight bytes. -/
def off (n : Int) : Nat := (n + 9223372036854775808).toNat
def encI (n : Int) : List UInt8 := be 8 (off n)
def i64 (n : Int) : Prop := -9223372036854775808 ≤ n ∧ n ≤ 9223372036854775807
theorem encI_len (n : Int) : (encI n).length = 8 := be_len 8 _
theorem off_lt {n : Int} (h : i64 n) : off n < 256 ^ 8 := by unfold off; unfold i64 at h; omega
theorem encI_less {a b : Int} (ha : i64 a) (hb : i64 b) (h : a < b) : bytesLess (encI a) (encI b) = true :=
  be_less 8 _ _ (off_lt ha) (off_lt hb) (by unfold off; unfold i64 at ha hb; omega)
/-- The number that bytes are. -/
def val (l : List UInt8) : Nat := l.foldl (fun x c => x * 256 + c.toNat) 0
theorem val_snoc (l : List UInt8) (c : UInt8) : val (l ++ [c]) = val l * 256 + c.toNat := by simp [val]
theorem val_from : ∀ (l : List UInt8) (x : Nat), l.foldl (fun x c => x * 256 + c.toNat) x = x * 256 ^ l.length + val l
  | [], x => by simp [val]
  | c :: l, x => by
    have h1 := val_from l (x * 256 + c.toNat)
    have h2 := val_from l (0 * 256 + c.toNat)
    simp only [val, List.foldl_cons, List.length_cons, Nat.pow_succ] at h1 h2 ⊢
    rw [h1, h2]
    simp only [Nat.zero_mul, Nat.zero_add, Nat.add_mul]
    rw [Nat.mul_comm (256 ^ l.length) 256, Nat.mul_assoc]
    omega
theorem val_cons (c : UInt8) (l : List UInt8) : val (c :: l) = c.toNat * 256 ^ l.length + val l := by
  have := val_from l (0 * 256 + c.toNat)
  simpa [val] using this
theorem val_lt : ∀ l : List UInt8, val l < 256 ^ l.length
  | [] => by simp [val]
  | c :: l => by
    have h1 := val_lt l
    have h2 := c.toNat_lt
    rw [val_cons, List.length_cons, Nat.pow_succ]
    have h3 : c.toNat * 256 ^ l.length ≤ 255 * 256 ^ l.length := Nat.mul_le_mul_right _ (by omega)
    omega
theorem val_be : ∀ k x, x < 256 ^ k → val (be k x) = x
  | 0, x, h => by simp at h; subst h; rfl
  | k + 1, x, h => by
    have hp : 0 < 256 ^ k := Nat.pow_pos (by decide)
    have h1 : x / 256 ^ k < 256 := by rw [Nat.div_lt_iff_lt_mul hp]; rw [Nat.pow_succ] at h; omega
    rw [be, val_cons, be_len, ← be_mod k k x (Nat.le_refl _), val_be k _ (Nat.mod_lt _ hp), Nat.mod_eq_of_lt h1]
    have : (UInt8.ofNat (x / 256 ^ k)).toNat = x / 256 ^ k := by rw [UInt8.toNat_ofNat']; exact Nat.mod_eq_of_lt h1
    rw [this, Nat.mul_comm]
    exact Nat.div_add_mod x (256 ^ k)
theorem be_val : ∀ l : List UInt8, be l.length (val l) = l
  | [] => rfl
  | c :: l => by
    have hp : 0 < 256 ^ l.length := Nat.pow_pos (by decide)
    have h1 := val_lt l
    rw [List.length_cons, be, val_cons]
    have e1 : (c.toNat * 256 ^ l.length + val l) / 256 ^ l.length = c.toNat := by
      rw [Nat.add_comm, Nat.add_mul_div_right _ _ hp, Nat.div_eq_of_lt h1]; omega
    have e2 : (c.toNat * 256 ^ l.length + val l) % 256 ^ l.length = val l := by
      rw [Nat.add_comm, Nat.add_mul_mod_self_right, Nat.mod_eq_of_lt h1]
    rw [e1, ← be_mod l.length l.length _ (Nat.le_refl _), e2, be_val l]
    have := c.toNat_lt
    rw [Nat.mod_eq_of_lt (by omega), UInt8.ofNat_toNat]
/-- The number of eight bytes, with its sign. -/
def decI (l : List UInt8) : Int := (val l : Int) - 9223372036854775808
theorem decI_encI {n : Int} (h : i64 n) : decI (encI n) = n := by
  unfold decI encI
  rw [val_be 8 _ (off_lt h)]
  unfold off; unfold i64 at h
  omega
theorem decI_i64 {l : List UInt8} (h : l.length = 8) : i64 (decI l) := by
  have := val_lt l
  rw [h] at this
  unfold i64 decI
  omega
theorem encI_decI {l : List UInt8} (h : l.length = 8) : encI (decI l) = l := by
  have h1 := be_val l
  rw [h] at h1
  have : off (decI l) = val l := by unfold off decI; omega
  rw [encI, this, h1]

/-! ### What is behind all that begins with a text -/
def afterN (l : List UInt8) : Nat → Option (List UInt8)
  | 0 => none
  | n + 1 => match l[n]? with
    | some c => if c.toNat < 255 then some (l.take n ++ [c + 1]) else afterN l n
    | none => none
def after (l : List UInt8) : Option (List UInt8) := afterN l l.length
/-- Does a text begin with another one? -/
def begins (a b : List UInt8) : Bool := decide (b.length ≤ a.length) && (a.take b.length == b)
end Go.AV.Ord
namespace Go.AV.Ord
theorem wrapU (n : Int) : IntKind.u64.wrap n = n % 18446744073709551616 := by simp [IntKind.wrap, IntKind.bits, IntKind.signed]
theorem xor63 (b r : Nat) (hr : r < 2 ^ 63) : (2 ^ 63 * b + r) ^^^ 2 ^ 63 = 2 ^ 63 * (b ^^^ 1) + r := by
  apply Nat.eq_of_testBit_eq
  intro i
  rw [Nat.testBit_xor, Nat.testBit_two_pow_mul_add _ hr, Nat.testBit_two_pow_mul_add _ hr, Nat.testBit_two_pow]
  by_cases h : i < 63
  · have : ¬ 63 = i := by omega
    simp [h, this]
  · simp only [h, if_false, Nat.testBit_xor]
    congr 1
    by_cases h2 : i = 63
    · subst h2; rfl
    · have h3 : ¬ 63 = i := by omega
      have h4 : i - 63 ≠ 0 := by omega
      obtain ⟨j, hj⟩ : ∃ j, i - 63 = j + 1 := ⟨i - 63 - 1, by omega⟩
      rw [hj]
      simp [h3, Nat.testBit_succ]
theorem xor_top {X : Nat} (h : X < 2 ^ 64) : X ^^^ 2 ^ 63 = if X < 2 ^ 63 then X + 2 ^ 63 else X - 2 ^ 63 := by
  have e := Nat.div_add_mod X (2 ^ 63)
  have hr : X % 2 ^ 63 < 2 ^ 63 := Nat.mod_lt _ (by decide)
  have hb : X / 2 ^ 63 < 2 := by rw [Nat.div_lt_iff_lt_mul (by decide)]; omega
  have := xor63 (X / 2 ^ 63) (X % 2 ^ 63) hr
  rw [e] at this
  rw [this]
  by_cases h0 : X / 2 ^ 63 = 0
  · rw [h0] at e ⊢
    have : (0 : Nat) ^^^ 1 = 1 := by decide
    rw [this]
    rw [if_pos (by omega)]
    omega
  · have h1 : X / 2 ^ 63 = 1 := by omega
    rw [h1] at e ⊢
    have : (1 : Nat) ^^^ 1 = 0 := by decide
    rw [this]
    rw [if_neg (by omega)]
    omega
theorem xor_u64 {m : Int} (h0 : 0 ≤ m) (h1 : m < 18446744073709551616) : IntKind.u64.wrap ((BitVec.ofInt IntKind.u64.bits m ^^^ BitVec.ofInt IntKind.u64.bits 9223372036854775808).toNat : Int) = if m < 9223372036854775808 then m + 9223372036854775808 else m - 9223372036854775808 := by
  have hb : IntKind.u64.bits = 64 := rfl
  have e1 : (BitVec.ofInt IntKind.u64.bits m).toNat = m.toNat := by
    rw [hb, BitVec.toNat_ofInt]
    congr 1
    rw [Int.emod_eq_of_lt h0 (by simpa using h1)]
  have e2 : (BitVec.ofInt IntKind.u64.bits 9223372036854775808).toNat = 2 ^ 63 := by decide
  rw [BitVec.toNat_xor, e1, e2, xor_top (by omega)]
  by_cases h : m < 9223372036854775808
  · rw [if_pos h, if_pos (by omega), wrap_u64 (by omega)]
    omega
  · rw [if_neg h, if_neg (by omega), wrap_u64 (by omega)]
    omega
theorem xor_off {n : Int} (h : i64 n) : IntKind.u64.wrap ((BitVec.ofInt IntKind.u64.bits (IntKind.u64.wrap n) ^^^ BitVec.ofInt IntKind.u64.bits 9223372036854775808).toNat : Int) = (off n : Int) := by
  unfold i64 at h
  have e : IntKind.u64.wrap n = if 0 ≤ n then n else n + 18446744073709551616 := by
    by_cases h0 : 0 ≤ n
    · rw [if_pos h0, wrap_u64 (by omega)]
    · rw [if_neg h0, wrapU]; omega
  by_cases h0 : 0 ≤ n
  · rw [if_pos h0] at e
    rw [e, xor_u64 h0 (by omega), if_pos (by omega)]
    unfold off; omega
  · rw [if_neg h0] at e
    rw [e, xor_u64 (by omega) (by omega), if_neg (by omega)]
    unfold off; omega
theorem xor_back {x : Nat} (h : x < 256 ^ 8) : IntKind.i64.wrap (IntKind.u64.wrap ((BitVec.ofInt IntKind.u64.bits (x : Int) ^^^ BitVec.ofInt IntKind.u64.bits 9223372036854775808).toNat : Int)) = (x : Int) - 9223372036854775808 := by
  have h' : x < 18446744073709551616 := by simpa using h
  rw [xor_u64 (by omega) (by omega)]
  by_cases h1 : (x : Int) < 9223372036854775808
  · rw [if_pos h1, IntKind.wrap_i64]; omega
  · rw [if_neg h1, IntKind.wrap_i64]; omega
theorem or_byte {x c : Nat} (hx : x < 256 ^ 7) (hc : c < 256) : IntKind.u64.wrap ((BitVec.ofInt IntKind.u64.bits ((x : Int) * 256) ||| BitVec.ofInt IntKind.u64.bits (c : Int)).toNat : Int) = ((x * 256 + c : Nat) : Int) := by
  have hx' : x < 72057594037927936 := by simpa using hx
  have hb : IntKind.u64.bits = 64 := rfl
  have e1 : (BitVec.ofInt IntKind.u64.bits ((x : Int) * 256)).toNat = 2 ^ 8 * x := by
    rw [hb, BitVec.toNat_ofInt]
    omega
  have e2 : (BitVec.ofInt IntKind.u64.bits (c : Int)).toNat = c := by
    rw [hb, BitVec.toNat_ofInt]
    omega
  rw [BitVec.toNat_or, e1, e2, ← Nat.two_pow_add_eq_or_of_lt (by simpa using hc), wrap_u64 (by omega)]
  omega
end Go.AV.Ord
namespace Go.AV.Ord
def keyL (ps : List (List UInt8)) : List UInt8 := ps.flatMap encT
theorem keyL_snoc (ps : List (List UInt8)) (p : List UInt8) : keyL (ps ++ [p]) = keyL ps ++ encT p := by simp [keyL]
theorem keyL_le : ∀ ps : List (List UInt8), (keyL ps).length ≤ 2 * (ps.map List.length).sum + 2 * ps.length
  | [] => by simp [keyL]
  | p :: ps => by
    have h1 := keyL_le ps
    have h2 := enc0_len p
    have h3 := encT_len p
    simp only [keyL, List.flatMap_cons, List.length_append, List.map_cons, List.sum_cons, List.length_cons] at h1 ⊢
    omega
theorem sum_take_le : ∀ (ls : List Nat) (k : Nat) (x : Nat), ls[k]? = some x → (ls.take k).sum + x ≤ ls.sum
  | [], k, x, h => by simp at h
  | y :: ls, 0, x, h => by simp at h; subst h; simp
  | y :: ls, k + 1, x, h => by
    have := sum_take_le ls k x (by simpa using h)
    simp only [List.take_succ_cons, List.sum_cons]
    omega
theorem keyL_len {ps : List (List UInt8)} {k : Nat} {p : List UInt8} (h : ps[k]? = some p) : (keyL (ps.take k)).length + 2 * p.length + 2 ≤ 2 * (ps.map List.length).sum + 2 * ps.length := by
  have h1 := keyL_le (ps.take k)
  have h2 := sum_take_le (ps.map List.length) k p.length (by simp [h])
  have hk : k < ps.length := (List.getElem?_eq_some_iff.1 h).1
  rw [← List.map_take] at h2
  have h3 : (ps.take k).length = k := by simp; omega
  rw [h3] at h1
  omega
end Go.AV.Ord
namespace Go.AV.Ord
theorem be_get : ∀ (k x j : Nat), j < k → (be k x)[j]? = some (UInt8.ofNat (x / 256 ^ (k - 1 - j) % 256))
  | 0, _, _, h => by omega
  | k + 1, x, 0, _ => by simp [be]
  | k + 1, x, j + 1, h => by
    have := be_get k x j (by omega)
    rw [be, List.getElem?_cons_succ, this]
    have e : k - 1 - j = k + 1 - 1 - (j + 1) := by omega
    rw [e]
theorem encI_get (n : Int) {j : Nat} (h : j < 8) : (encI n)[j]? = some (UInt8.ofNat (off n / 256 ^ (7 - j) % 256)) := be_get 8 _ j h
theorem shr_off (X : Nat) {j : Nat} (h : j < 8) : ((X : Nat) : Int).fdiv (2 ^ (min ((8 : Int) * (7 - (j : Int))).toNat IntKind.u64.bits)) = ((X / 256 ^ (7 - j) : Nat) : Int) := by
  have e1 : min ((8 : Int) * (7 - (j : Int))).toNat IntKind.u64.bits = 8 * (7 - j) := by
    have : IntKind.u64.bits = 64 := rfl
    rw [this]
    omega
  have e2 : (2 : Int) ^ (8 * (7 - j)) = ((256 ^ (7 - j) : Nat) : Int) := by
    rw [show (256 : Nat) = 2 ^ 8 from rfl, ← Nat.pow_mul]
    exact (Int.natCast_pow 2 _).symm
  rw [e1, e2, Int.fdiv_eq_ediv_of_nonneg _ (Int.natCast_nonneg _)]
  rfl
theorem shl8 {x : Nat} (h : x < 256 ^ 7) : IntKind.u64.wrap ((x : Int) * 2 ^ (min (8 : Int).toNat IntKind.u64.bits)) = (x : Int) * 256 := by
  have h' : x < 72057594037927936 := by simpa using h
  have : (2 : Int) ^ (min (8 : Int).toNat IntKind.u64.bits) = 256 := by decide
  rw [this, wrap_u64 (by omega)]
theorem conv_byte (q : Nat) : IntKind.u8.wrap ((q : Nat) : Int) = ((UInt8.ofNat (q % 256)).toNat : Int) := by
  have : IntKind.u8.wrap ((q : Nat) : Int) = ((q : Nat) : Int) % 256 := by simp [IntKind.wrap, IntKind.bits, IntKind.signed]
  rw [this, UInt8.toNat_ofNat']
  omega
def numL (s : List UInt8) : Int × Bool := if s.length = 8 then (decI s, true) else (0, false)
theorem afterN_succ {l : List UInt8} {n : Nat} {c : UInt8} (h : l[n]? = some c) : afterN l (n + 1) = if c.toNat < 255 then some (l.take n ++ [c + 1]) else afterN l n := by
  rw [afterN, h]
theorem byte_succ {c : UInt8} (h : c.toNat < 255) : ((c.toNat : Nat) : Int) + 1 = ((c + 1).toNat : Int) := by
  rw [UInt8.toNat_add]
  have : (1 : UInt8).toNat = 1 := rfl
  rw [this]
  omega
end Go.AV.Ord
namespace Go.AV.Ord
open Go.Op
theorem wf_i64 {n : Int} (h : (Lit.int .i64 n).wf = true) : i64 n := by
  have hb : IntKind.i64.min = -9223372036854775808 ∧ IntKind.i64.max = 9223372036854775807 := by decide
  simp only [Lit.wf, Bool.and_eq_true, decide_eq_true_eq, hb.1, hb.2] at h
  exact h
theorem less_not {a b : List UInt8} (h : bytesLess b a = true) : (!(bytesLess a b || a == b)) = true := by
  have h1 := less_asymm h
  have h2 : (a == b) = false := by simpa using (less_ne h).symm
  simp [h1, h2]
theorem less_encI {a b : Int} (ha : i64 a) (hb : i64 b) (h : a < b) (p m o : List UInt8) : bytesLess (p ++ encI a ++ m) (p ++ encI b ++ o) = true := by
  rw [List.append_assoc, List.append_assoc, less_append]
  exact less_ext (by rw [encI_len, encI_len]) (encI_less ha hb h) m o

/-! ### After -/
def aft : List UInt8 → Option (List UInt8)
  | [] => none
  | c :: p => match aft p with
    | some x => some (c :: x)
    | none => if c.toNat < 255 then some [c + 1] else none
theorem aft_snoc (c : UInt8) : ∀ l : List UInt8, aft (l ++ [c]) = if c.toNat < 255 then some (l ++ [c + 1]) else aft l
  | [] => by simp [aft]
  | d :: l => by
    rw [List.cons_append, aft, aft_snoc c l]
    by_cases h : c.toNat < 255
    · simp [h]
    · simp only [h, if_false]
      rfl
theorem afterN_eq (l : List UInt8) : ∀ k, k ≤ l.length → afterN l k = aft (l.take k)
  | 0, _ => by simp [afterN, aft]
  | k + 1, h => by
    have hc : l[k]? = some l[k] := by simp [show k < l.length by omega]
    rw [afterN_succ hc, take_snoc hc, aft_snoc, afterN_eq l k (by omega)]
theorem after_eq (l : List UInt8) : after l = aft l := by rw [after, afterN_eq l _ (Nat.le_refl _), List.take_length]
theorem aft_none : ∀ l : List UInt8, (aft l).isSome = !(l.all fun c => c == 255)
  | [] => rfl
  | c :: l => by
    have ih := aft_none l
    rw [aft, List.all_cons]
    cases h : aft l with
    | some x => rw [h] at ih; simp at ih; simp [ih]
    | none =>
      rw [h] at ih
      have hl : (l.all fun c => c == 255) = true := by simpa using ih
      by_cases hc : c.toNat < 255
      · have : (c == 255) = false := by
          have : c ≠ 255 := by intro e; subst e; exact absurd hc (by decide)
          simpa using this
        simp [hc, this]
      · have : c = 255 := UInt8.toNat_inj.1 (by have := c.toNat_lt; show c.toNat = 255; omega)
        subst this
        simp [hl]
theorem begins_iff {a b : List UInt8} : begins a b = true ↔ ∃ r, a = b ++ r := by
  simp only [begins, Bool.and_eq_true, decide_eq_true_eq, beq_iff_eq]
  constructor
  · rintro ⟨_, h⟩
    exact ⟨a.drop b.length, by have := List.take_append_drop b.length a; rw [h] at this; exact this.symm⟩
  · rintro ⟨r, rfl⟩
    simp
theorem begins_cons (c d : UInt8) (a b : List UInt8) : begins (c :: a) (d :: b) = (c == d && begins a b) := by
  rw [Bool.eq_iff_iff]
  simp only [begins_iff, Bool.and_eq_true, beq_iff_eq, List.cons_append, List.cons.injEq]
  constructor
  · rintro ⟨r, rfl, rfl⟩; exact ⟨rfl, r, rfl⟩
  · rintro ⟨rfl, r, rfl⟩; exact ⟨r, rfl, rfl⟩
theorem begins_nil (a : List UInt8) : begins a [] = true := begins_iff.2 ⟨a, rfl⟩
theorem nil_begins (c : UInt8) (a : List UInt8) : begins [] (c :: a) = false := by simp [begins]
/-- Where there is no such text: what begins with it, or is below it, is all. -/
theorem aft_all : ∀ (p s : List UInt8), aft p = none → (bytesLess s p || begins s p) = true
  | [], s, _ => by simp [begins_nil]
  | c :: p, s, h => by
    have h2 : aft p = none ∧ c = 255 := by
      rw [aft] at h
      cases hp : aft p with
      | some x => rw [hp] at h; cases h
      | none =>
        rw [hp] at h
        refine ⟨rfl, UInt8.toNat_inj.1 ?_⟩
        have := c.toNat_lt
        by_cases hc : c.toNat < 255
        · simp [hc] at h
        · show c.toNat = 255; omega
    obtain ⟨h2, rfl⟩ := h2
    cases s with
    | nil => simp [bytesLess]
    | cons d s =>
      have ih := aft_all p s h2
      rw [begins_cons]
      by_cases hd : d = 255
      · subst hd; simpa [bytesLess] using ih
      · have : d < 255 := by
          rw [UInt8.lt_iff_toNat_lt]
          have := d.toNat_lt
          have h3 : d.toNat ≠ 255 := fun e => hd (UInt8.toNat_inj.1 e)
          show d.toNat < 255
          omega
        simp [bytesLess, this]
theorem lt_succ {c : UInt8} (h : c.toNat < 255) (d : UInt8) : d < c + 1 ↔ d.toNat ≤ c.toNat := by
  rw [UInt8.lt_iff_toNat_lt]
  have := byte_succ h
  omega
/-- What begins with it is below what is behind it. -/
theorem aft_above : ∀ {p a : List UInt8}, aft p = some a → ∀ r, bytesLess (p ++ r) a = true
  | [], a, h, _ => by cases h
  | c :: p, a, h, r => by
    rw [aft] at h
    cases hp : aft p with
    | some x =>
      rw [hp] at h
      cases h
      have := aft_above hp r
      simp [bytesLess, this]
    | none =>
      rw [hp] at h
      by_cases hc : c.toNat < 255
      · simp [hc] at h
        subst h
        have := (lt_succ hc c).2 (Nat.le_refl _)
        simp [bytesLess, this]
      · simp [hc] at h
/-- What isn't below it, and is below what is behind it, begins with it. -/
theorem aft_below : ∀ {p a s : List UInt8}, aft p = some a → bytesLess s p = false → bytesLess s a = true → begins s p = true
  | [], a, s, h, _, _ => by cases h
  | c :: p, a, [], h, h1, _ => by simp [bytesLess] at h1
  | c :: p, a, d :: s, h, h1, h2 => by
    rw [begins_cons]
    rw [aft] at h
    simp only [bytesLess, Bool.or_eq_false_iff, decide_eq_false_iff_not, Bool.and_eq_false_iff] at h1
    cases hp : aft p with
    | some x =>
      rw [hp] at h
      cases h
      simp only [bytesLess, Bool.or_eq_true, decide_eq_true_eq, Bool.and_eq_true, beq_iff_eq] at h2
      rcases h2 with h2 | ⟨rfl, h2⟩
      · exact absurd h2 h1.1
      · have h3 : bytesLess s p = false := by
          rcases h1.2 with h | h
          · simp at h
          · exact h
        simp [aft_below hp h3 h2]
    | none =>
      rw [hp] at h
      by_cases hc : c.toNat < 255
      · simp [hc] at h
        subst h
        have hd : d.toNat ≤ c.toNat := by
          cases s <;> simp only [bytesLess, Bool.or_eq_true, decide_eq_true_eq, Bool.and_eq_true, beq_iff_eq] at h2
          all_goals
            rcases h2 with h2 | ⟨_, h2⟩
            · exact (lt_succ hc d).1 h2
            · cases h2
        have hdc : d = c := UInt8.toNat_inj.1 (by
          have := h1.1
          rw [UInt8.lt_iff_toNat_lt] at this
          omega)
        subst hdc
        have h3 : bytesLess s p = false := by
          rcases h1.2 with h | h
          · simp at h
          · exact h
        have h4 := aft_all p s hp
        rw [h3] at h4
        simpa using h4
      · simp [hc] at h
/-- What is behind it doesn't begin with it. -/
theorem aft_not : ∀ {p a : List UInt8}, aft p = some a → begins a p = false
  | [], a, h => by cases h
  | c :: p, a, h => by
    rw [aft] at h
    cases hp : aft p with
    | some x =>
      rw [hp] at h
      cases h
      simp [begins_cons, aft_not hp]
    | none =>
      rw [hp] at h
      by_cases hc : c.toNat < 255
      · simp [hc] at h
        subst h
        have : ¬ c + 1 = c := by
          intro e
          have := byte_succ hc
          rw [e] at this
          omega
        simp [begins_cons, this]
      · simp [hc] at h
theorem begins_not_less {s p : List UInt8} (h : begins s p = true) : bytesLess s p = false := by
  obtain ⟨r, rfl⟩ := begins_iff.1 h
  have := less_append p r []
  rw [List.append_nil] at this
  rw [this]
  cases r <;> rfl
end Go.AV.Ord
/-
  The plain laws of layer 3, part 2.
-/
namespace Go.AV.Ord
open Go.Op
theorem byL_encI {a b : Int} (ha : i64 a) (hb : i64 b) : byL (encI a) (encI b) = if a < b then -1 else if b < a then 1 else 0 := by
  by_cases h : a < b
  · rw [if_pos h, byL_lt (encI_less ha hb h)]
  · rw [if_neg h]
    by_cases h2 : b < a
    · rw [if_pos h2, byL_gt (encI_less hb ha h2)]
    · rw [if_neg h2, show a = b by omega, byL_self]
theorem numL_i64 (s : List UInt8) : i64 (numL s).1 := by
  unfold numL
  split
  · exact decI_i64 ‹_›
  · exact ⟨by decide, by decide⟩
theorem numL_back {s : List UInt8} (h : (numL s).2 = true) : encI (numL s).1 = s := by
  unfold numL at h ⊢
  split at h
  · rename_i h8; rw [if_pos h8]; exact encI_decI h8
  · cases h
theorem numL_ok (s : List UInt8) : (numL s).2 = decide (s.length = 8) := by
  unfold numL
  split <;> simp [*]
theorem numL_zero {s : List UInt8} (h : (numL s).2 = false) : (numL s).1 = 0 := by
  unfold numL at h ⊢
  split at h
  · cases h
  · rename_i h8; rw [if_neg h8]
theorem numL_encI {a : Int} (ha : i64 a) : numL (encI a) = (a, true) := by simp [numL, encI_len, decI_encI ha]
/-- The keys of lists, side by side. -/
theorem encT_ne (l : List UInt8) : ∃ c r, encT l = c :: r := by
  cases l with
  | nil => exact ⟨0, [1], rfl⟩
  | cons c l => rw [encT_cons]; unfold enc1; split <;> exact ⟨_, _, rfl⟩
def pref : List (List UInt8) → List (List UInt8) → Bool
  | [], _ => true
  | _ :: _, [] => false
  | a :: as, b :: bs => a == b && pref as bs
theorem begins_encT {a b : List UInt8} {x y : List UInt8} : begins (encT a ++ x) (encT b ++ y) = (a == b && begins x y) := by
  rw [Bool.eq_iff_iff]
  constructor
  · intro h
    obtain ⟨r, hr⟩ := begins_iff.1 h
    rw [List.append_assoc] at hr
    have e := encT_inj hr
    subst e
    rw [List.append_cancel_left hr]
    simp [begins_iff]
  · intro h
    simp only [Bool.and_eq_true, beq_iff_eq] at h
    obtain ⟨rfl, h⟩ := h
    obtain ⟨r, rfl⟩ := begins_iff.1 h
    exact begins_iff.2 ⟨r, by simp⟩
theorem begins_keyL : ∀ (b a : List (List UInt8)), begins (keyL b) (keyL a) = pref a b
  | b, [] => by simp [keyL, begins_nil, pref]
  | [], a :: as => by
    obtain ⟨c, r, h⟩ := encT_ne a
    simp [keyL, h, nil_begins, pref]
  | b :: bs, a :: as => by
    have h := begins_keyL bs as
    simp only [keyL, List.flatMap_cons] at h ⊢
    rw [begins_encT, h, pref]
    by_cases e : b = a
    · subst e; simp
    · rw [beq_eq_false_iff_ne.2 e, beq_eq_false_iff_ne.2 (Ne.symm e)]
theorem aft_some {l : List UInt8} {c : UInt8} (h : c ∈ l) (hc : c ≠ 255) : (aft l).isSome = true := by
  rw [aft_none]
  simp only [Bool.not_eq_true', List.all_eq_false]
  exact ⟨c, h, by simpa using hc⟩
theorem aft_keyL (a : List (List UInt8)) : (aft (keyL a)).isSome = !a.isEmpty := by
  cases a with
  | nil => rfl
  | cons x xs => exact aft_some (c := 1) (by simp [keyL, encT]) (by decide)
theorem aft_begins {p x : List UInt8} (h : aft p = some x) (s : List UInt8) : (begins s p) = ((!bytesLess s p) && bytesLess s x) := by
  rw [Bool.eq_iff_iff]
  constructor
  · intro hb
    obtain ⟨r, rfl⟩ := begins_iff.1 hb
    rw [begins_not_less hb, aft_above h]; rfl
  · intro hb
    simp only [Bool.and_eq_true, Bool.not_eq_true'] at hb
    exact aft_below h hb.1 hb.2
theorem pref_take (a b : List (List UInt8)) (k : Nat) {x y : List UInt8} (hx : a[k]? = some x) (hy : b[k]? = some y) : pref (a.take (k + 1)) b = (pref (a.take k) b && x == y) := by
  induction k generalizing a b with
  | zero =>
    cases a <;> cases b <;> simp_all [pref]
  | succ k ih =>
    cases a with
    | nil => simp at hx
    | cons c as =>
      cases b with
      | nil => simp at hy
      | cons d bs =>
        simp only [List.getElem?_cons_succ] at hx hy
        have := ih as bs hx hy
        simp only [List.take_succ_cons, pref] at this ⊢
        rw [this, Bool.and_assoc]
theorem sum_short : ∀ {l : List (List UInt8)}, (∀ x ∈ l, x.length ≤ 40) → (l.map List.length).sum ≤ 40 * l.length
  | [], _ => by simp
  | x :: l, h => by
    have h1 := h x (by simp)
    have h2 := sum_short (l := l) fun y hy => h y (by simp [hy])
    simp only [List.map_cons, List.sum_cons, List.length_cons]
    omega
theorem keys_short {l : List (List UInt8)} (h6 : l.length ≤ 6) (h : ∀ x ∈ l, x.length ≤ 40) : 2 * (l.map List.length).sum + 2 * l.length ≤ 1000 := by
  have := sum_short h
  omega
theorem pref_len : ∀ {a b : List (List UInt8)}, b.length < a.length → pref a b = false
  | [], _, h => by simp at h
  | _ :: _, [], _ => rfl
  | a :: as, b :: bs, h => by
    have := pref_len (a := as) (b := bs) (by simpa using h)
    simp [pref, this]
theorem pref_none {a b : List (List UInt8)} {k : Nat} (h : pref (a.take k) b = false) : pref a b = false := by
  induction k generalizing a b with
  | zero => simp [pref] at h
  | succ k ih =>
    cases a with
    | nil => simp [pref] at h
    | cons c as =>
      cases b with
      | nil => rfl
      | cons d bs =>
        simp only [List.take_succ_cons, pref] at h ⊢
        cases hc : (c == d) with
        | false => simp
        | true => rw [hc] at h; simpa using ih (by simpa using h)
end Go.AV.Ord
/-
  The plain laws of layer 3, part 3.
-/
namespace Go.AV.Ord
open Go.Op
theorem pref_out {a b : List (List UInt8)} {k : Nat} (h : (decide (a.length ≤ b.length) && pref (a.take k) b) = false) : (decide (a.length ≤ b.length) && pref (a.take k) b) = pref a b := by
  rw [h]
  by_cases hab : a.length ≤ b.length
  · exact (pref_none (k := k) (by simpa [hab] using h)).symm
  · exact (pref_len (by omega)).symm
end Go.AV.Ord
/-
  The plain laws of layer 3, part 4: a key taken apart.
-/
namespace Go.AV.Ord
open Go.Op
def cutL : List UInt8 → Option (List UInt8 × List UInt8)
  | [] => none
  | c :: r => if c = 0 then match r with
      | [] => none
      | d :: r => if d = 1 then some ([], r) else if d = 255 then (cutL r).map fun p => (0 :: p.1, p.2) else none
    else (cutL r).map fun p => (c :: p.1, p.2)
theorem cutL_ne {c : UInt8} (r : List UInt8) (h : c ≠ 0) : cutL (c :: r) = (cutL r).map fun p => (c :: p.1, p.2) := by
  rw [cutL.eq_def]
  simp only []
  rw [if_neg h]
theorem cutL_0 (d : UInt8) (r : List UInt8) : cutL (0 :: d :: r) = if d = 1 then some ([], r) else if d = 255 then (cutL r).map fun p => (0 :: p.1, p.2) else none := by
  rw [cutL.eq_def]
  simp only [if_true]
theorem cutL_00 : cutL [0] = none := rfl
/-- What was read of a text so far, o, and what is left, r. -/
def cutO (o r : List UInt8) : Option (List UInt8 × List UInt8) := (cutL r).map fun p => (o ++ p.1, p.2)
theorem cutO_nil (k : List UInt8) : cutO [] k = cutL k := by
  unfold cutO
  cases cutL k <;> rfl
theorem cutO_step {o r : List UInt8} {c : UInt8} (h : c ≠ 0) : cutO o (c :: r) = cutO (o ++ [c]) r := by
  unfold cutO
  rw [cutL_ne _ h]
  cases cutL r <;> simp
theorem cutO_zero {o r : List UInt8} : cutO o (0 :: 255 :: r) = cutO (o ++ [0]) r := by
  unfold cutO
  rw [cutL_0, if_neg (by decide), if_pos rfl]
  cases cutL r <;> simp
theorem cutO_end {o r : List UInt8} : cutO o (0 :: 1 :: r) = some (o, r) := by
  unfold cutO
  rw [cutL_0, if_pos rfl]
  simp
theorem cutO_bad {o r : List UInt8} {d : UInt8} (h1 : d ≠ 1) (h2 : d ≠ 255) : cutO o (0 :: d :: r) = none := by
  unfold cutO
  rw [cutL_0]
  simp [h1, h2]
theorem cutO_short {o r : List UInt8} (h : r.length ≤ 1) : cutO o r = none := by
  unfold cutO
  match r, h with
  | [], _ => rfl
  | [c], _ =>
    by_cases hc : c = 0
    · subst hc; rfl
    · rw [cutL_ne _ hc]; rfl
def cut1 (k : List UInt8) : List UInt8 := (cutL k).elim [] Prod.fst
def cut2 (k : List UInt8) : List UInt8 := (cutL k).elim [] Prod.snd
def cutB (k : List UInt8) : Bool := (cutL k).isSome
theorem cut_encT : ∀ (a r : List UInt8), cutL (encT a ++ r) = some (a, r)
  | [], r => rfl
  | c :: a, r => by
    have ih := cut_encT a r
    rw [encT_cons, List.append_assoc]
    unfold enc1
    by_cases hc : c = 0
    · subst hc
      rw [if_pos rfl]
      show cutL (0 :: 255 :: (encT a ++ r)) = _
      rw [cutL_0, if_neg (by decide), if_pos rfl]
      simp [ih]
    · rw [if_neg hc]
      show cutL (c :: (encT a ++ r)) = _
      rw [cutL_ne _ hc]
      simp [ih]
theorem encT_cut : ∀ (n : Nat) (k a r : List UInt8), k.length ≤ n → cutL k = some (a, r) → encT a ++ r = k
  | 0, [], a, r, _, h => by simp [cutL] at h
  | 0, c :: k, a, r, hl, h => by simp at hl
  | n + 1, [], a, r, _, h => by simp [cutL] at h
  | n + 1, c :: k, a, r, hl, h => by
    by_cases hc : c = 0
    · subst hc
      match k, hl, h with
      | [], _, h => simp [cutL_00] at h
      | d :: k, hl, h =>
        rw [cutL_0] at h
        by_cases h1 : d = 1
        · subst h1
          simp at h
          obtain ⟨rfl, rfl⟩ := h
          rfl
        · rw [if_neg h1] at h
          by_cases h2 : d = 255
          · subst h2
            rw [if_pos rfl, Option.map_eq_some_iff] at h
            obtain ⟨⟨a', r'⟩, h3, h4⟩ := h
            cases h4
            rw [encT_cons]
            have := encT_cut n k a' r' (by simp at hl; omega) h3
            simp [enc1, this]
          · rw [if_neg h2] at h
            cases h
    · rw [cutL_ne _ hc, Option.map_eq_some_iff] at h
      obtain ⟨⟨a', r'⟩, h3, h4⟩ := h
      cases h4
      rw [encT_cons]
      have := encT_cut n k a' r' (by simp at hl; omega) h3
      simp [enc1, hc, this]
theorem cutL_iff {k a r : List UInt8} : cutL k = some (a, r) ↔ k = encT a ++ r :=
  ⟨fun h => (encT_cut _ k a r (Nat.le_refl _) h).symm, fun h => h ▸ cut_encT a r⟩
theorem drop_two {α : Type} {l : List α} {i : Nat} {c d : α} (h : l[i]? = some c) (h' : l[i + 1]? = some d) : l.drop i = c :: d :: l.drop (i + 2) := by
  have h1 := (List.getElem?_eq_some_iff.1 h)
  have h2 := (List.getElem?_eq_some_iff.1 h')
  obtain ⟨h1, rfl⟩ := h1
  obtain ⟨h2, rfl⟩ := h2
  rw [List.drop_eq_getElem_cons h1, List.drop_eq_getElem_cons h2]
theorem drop_one {α : Type} {l : List α} {i : Nat} {c : α} (h : l[i]? = some c) : l.drop i = c :: l.drop (i + 1) := by
  obtain ⟨h1, rfl⟩ := List.getElem?_eq_some_iff.1 h
  rw [List.drop_eq_getElem_cons h1]
/-! ### All the texts of a key -/
def partsN : Nat → List UInt8 → Option (List (List UInt8))
  | _, [] => some []
  | 0, _ :: _ => none
  | n + 1, k@(_ :: _) => (cutL k).bind fun p => (partsN n p.2).map (p.1 :: ·)
theorem cutL_len {k a r : List UInt8} (h : cutL k = some (a, r)) : r.length + 2 ≤ k.length := by
  rw [cutL_iff.1 h]
  have := encT_len a
  simp; omega
theorem partsN_fuel : ∀ (n m : Nat) (k : List UInt8), k.length ≤ n → k.length ≤ m → partsN n k = partsN m k
  | n, m, [], _, _ => by cases n <;> cases m <;> rfl
  | 0, _, _ :: _, h, _ => by simp at h
  | _, 0, _ :: _, _, h => by simp at h
  | n + 1, m + 1, c :: k, h, h' => by
    simp only [partsN]
    cases hc : cutL (c :: k) with
    | none => rfl
    | some p =>
      have := cutL_len (a := p.1) (r := p.2) hc
      simp only [Option.bind_some]
      rw [partsN_fuel n m p.2 (by omega) (by omega)]
def partsL (k : List UInt8) : Option (List (List UInt8)) := partsN k.length k
theorem partsL_nil : partsL [] = some [] := rfl
theorem partsL_step {k : List UInt8} (h : k ≠ []) : partsL k = (cutL k).bind fun p => (partsL p.2).map (p.1 :: ·) := by
  unfold partsL
  match k, h with
  | c :: k, _ =>
    simp only [List.length_cons, partsN]
    cases hc : cutL (c :: k) with
    | none => rfl
    | some p =>
      have := cutL_len (a := p.1) (r := p.2) hc
      simp only [Option.bind_some]
      rw [partsN_fuel k.length p.2.length p.2 (by simp at this; omega) (by omega)]
/-- What was read so far, and what is left. -/
def partsO (o : List (List UInt8)) (k : List UInt8) : Option (List (List UInt8)) := (partsL k).map (o ++ ·)
theorem partsO_nil (k : List UInt8) : partsO [] k = partsL k := by
  unfold partsO
  cases partsL k <;> rfl
theorem partsO_end (o : List (List UInt8)) : partsO o [] = some o := by simp [partsO, partsL_nil]
theorem partsO_step {o : List (List UInt8)} {k a r : List UInt8} (h : cutL k = some (a, r)) : partsO o k = partsO (o ++ [a]) r := by
  have hk : k ≠ [] := by intro e; subst e; simp [cutL] at h
  unfold partsO
  rw [partsL_step hk, h]
  simp only [Option.bind_some]
  cases partsL r <;> simp
theorem partsO_bad {o : List (List UInt8)} {k : List UInt8} (hk : k ≠ []) (h : cutL k = none) : partsO o k = none := by
  unfold partsO
  rw [partsL_step hk, h]
  rfl
theorem parts_keyL : ∀ ps : List (List UInt8), partsL (keyL ps) = some ps
  | [] => rfl
  | p :: ps => by
    have hk : keyL (p :: ps) = encT p ++ keyL ps := by simp [keyL]
    have hne : keyL (p :: ps) ≠ [] := by rw [hk]; simp [encT]
    rw [partsL_step hne, hk, cut_encT]
    simp [parts_keyL ps]
theorem keyL_parts : ∀ (n : Nat) (k : List UInt8) (ps : List (List UInt8)), k.length ≤ n → partsL k = some ps → keyL ps = k
  | n, [], ps, _, h => by simp [partsL_nil] at h; subst h; rfl
  | 0, _ :: _, _, h, _ => by simp at h
  | n + 1, c :: k, ps, hl, h => by
    rw [partsL_step (by simp)] at h
    cases hc : cutL (c :: k) with
    | none => rw [hc] at h; cases h
    | some p =>
      rw [hc] at h
      simp only [Option.bind_some, Option.map_eq_some_iff] at h
      obtain ⟨qs, h1, rfl⟩ := h
      have h2 := cutL_len (a := p.1) (r := p.2) hc
      have h3 := keyL_parts n p.2 qs (by simp at hl h2; omega) h1
      have h4 := (cutL_iff (a := p.1) (r := p.2)).1 hc
      rw [h4]
      simp [keyL] at h3 ⊢
      exact h3
end Go.AV.Ord
namespace Go.AV.Ord
def partsA (k : List UInt8) : List (List UInt8) := (partsL k).getD []
def partsE (k : List UInt8) : Int := if (partsL k).isSome then 0 else 2
theorem cut_some {k : List UInt8} (h : cutB k = true) : cutL k = some (cut1 k, cut2 k) := by
  unfold cutB at h
  obtain ⟨p, hp⟩ := Option.isSome_iff_exists.1 h
  simp [cut1, cut2, hp]
theorem cut_none {k : List UInt8} (h : cutB k = false) : cutL k = none := by
  unfold cutB at h
  simpa using h
end Go.AV.Ord
namespace Go.AV.Ord
def sgn (n : Int) : Int := if (if n > -1 then n else -1) < 1 then (if n > -1 then n else -1) else 1
theorem keyL_ne {p : List UInt8} {ps : List (List UInt8)} : keyL (p :: ps) ≠ [] := by simp [keyL, encT]
theorem less_nil (b : List UInt8) : Go.Op.bytesLess b [] = false := by cases b <;> rfl
theorem byL_nil : ∀ b : List (List UInt8), byL (keyL []) (keyL b) = if b = [] then 0 else -1
  | [] => by simp [byL_self]
  | p :: ps => by
    have h : keyL (p :: ps) ≠ [] := keyL_ne
    cases hk : keyL (p :: ps) with
    | nil => exact absurd hk h
    | cons c r => simp [byL, keyL, Go.Op.bytesLess]
theorem nil_byL : ∀ b : List (List UInt8), byL (keyL b) (keyL []) = if b = [] then 0 else 1
  | [] => by simp [byL_self]
  | p :: ps => by
    have h : keyL (p :: ps) ≠ [] := keyL_ne
    cases hk : keyL (p :: ps) with
    | nil => exact absurd hk h
    | cons c r => simp [byL, keyL, Go.Op.bytesLess]
theorem byL_keyL_pre {a b : List (List UInt8)} {k : Nat} (h : a.take k = b.take k) : byL (keyL a) (keyL b) = byL (keyL (a.drop k)) (keyL (b.drop k)) := by
  have e : ∀ l : List (List UInt8), keyL l = keyL (l.take k) ++ keyL (l.drop k) := fun l => by
    simp only [keyL, ← List.flatMap_append, List.take_append_drop]
  rw [e a, e b, h, byL_append]
theorem byL_keyL_end {a b : List (List UInt8)} {k : Nat} (h : a.take k = b.take k) (ha : k ≤ a.length) (hb : k ≤ b.length) (he : k = a.length ∨ k = b.length) : byL (keyL a) (keyL b) = sgn (a.length - b.length) := by
  rw [byL_keyL_pre h]
  rcases he with rfl | rfl
  · rw [List.drop_length, byL_nil]
    by_cases hd : b.drop a.length = []
    · rw [if_pos hd]
      have : b.length ≤ a.length := by simpa using hd
      rw [show (a.length : Int) - b.length = 0 by omega]
      rfl
    · rw [if_neg hd]
      have : ¬ b.length ≤ a.length := by simpa using hd
      unfold sgn
      split <;> split at * <;> omega
  · rw [List.drop_length, nil_byL]
    by_cases hd : a.drop b.length = []
    · rw [if_pos hd]
      have : a.length ≤ b.length := by simpa using hd
      rw [show (a.length : Int) - b.length = 0 by omega]
      rfl
    · rw [if_neg hd]
      have : ¬ a.length ≤ b.length := by simpa using hd
      unfold sgn
      split <;> split at * <;> omega
theorem byL_keyL_at {a b : List (List UInt8)} {k : Nat} {x y : List UInt8} (h : a.take k = b.take k) (hx : a[k]? = some x) (hy : b[k]? = some y) (hne : x ≠ y) : byL (keyL a) (keyL b) = byL x y := by
  rw [byL_keyL_pre h, drop_one hx, drop_one hy]
  simp only [keyL, List.flatMap_cons]
  exact byL_encT hne _ _
theorem byL_zero {x y : List UInt8} (h : byL x y = 0) : x = y := by
  unfold byL at h
  split at h
  · cases h
  · rename_i h1
    split at h
    · cases h
    · rename_i h2
      simpa [h1] using h2
theorem byL_same {x : List UInt8} : byL x x = 0 := byL_self x
theorem partsA_key (a : List (List UInt8)) : partsA (keyL a) = a := by simp [partsA, parts_keyL]
theorem partsE_key (a : List (List UInt8)) : partsE (keyL a) = 0 := by simp [partsE, parts_keyL]
theorem cut_key (p : List UInt8) (ps : List (List UInt8)) (r : List UInt8) : cutL (keyL (p :: ps) ++ r) = some (p, keyL ps ++ r) := by
  have : keyL (p :: ps) ++ r = encT p ++ (keyL ps ++ r) := by simp [keyL]
  rw [this, cut_encT]
end Go.AV.Ord
namespace Go.AV.Ord
theorem keys_short10 {l : List (List UInt8)} (h6 : l.length ≤ 10) (h : ∀ x ∈ l, x.length ≤ 40) : 2 * (l.map List.length).sum + 2 * l.length ≤ 1000 := by
  have := sum_short h
  omega
end Go.AV.Ord
/-
  The plain laws of layer 3, part 5.
-/
namespace Go.AV.Ord
theorem keyL_ge : ∀ ps : List (List UInt8), (ps.map List.length).sum + 2 * ps.length ≤ (keyL ps).length
  | [] => by simp
  | p :: ps => by
    have h1 := keyL_ge ps
    have h2 := encT_len p
    have h3 := enc0_len p
    simp only [keyL, List.flatMap_cons, List.length_append, List.map_cons, List.sum_cons, List.length_cons] at h1 ⊢
    omega
theorem parts_none {k : List UInt8} (h : ¬ partsE k = 0) : partsL k = none := by
  unfold partsE at h
  cases hp : partsL k with
  | none => rfl
  | some ps => simp [hp] at h
theorem parts_back {k : List UInt8} (h : partsE k = 0) : keyL (partsA k) = k := by
  unfold partsE at h
  cases hp : partsL k with
  | none => simp [hp] at h
  | some ps => simp only [partsA, hp, Option.getD_some]; exact keyL_parts _ k ps (Nat.le_refl _) hp
theorem scan0 {k : List UInt8} {i : Nat} {e f : UInt8} (he : k[i]? = some e) (hf : k[i + 1]? = some f) (he0 : e = 0) (hff : ((f.toNat : Int) == 255) = true) (h : ∃ o, cutO o (k.drop i) = none) : ∃ o, cutO o (k.drop (i + 2)) = none := by
  obtain ⟨o, ho⟩ := h
  have hf2 : f = 255 := by apply UInt8.toNat_inj.1; show f.toNat = 255; simp at hff; omega
  subst he0 hf2
  rw [drop_two he hf] at ho
  exact ⟨_, cutO_zero.symm.trans ho⟩
theorem scan1 {k : List UInt8} {i : Nat} {e : UInt8} (he : k[i]? = some e) (he0 : e ≠ 0) (h : ∃ o, cutO o (k.drop i) = none) : ∃ o, cutO o (k.drop (i + 1)) = none := by
  obtain ⟨o, ho⟩ := h
  rw [drop_one he] at ho
  exact ⟨_, (cutO_step he0).symm.trans ho⟩
theorem scan_end {k : List UInt8} {m : Nat} {c d : UInt8} (hc : k[m + 1]? = some c) (hd : k[m]? = some d) (hc1 : c = 1) (hd0 : d = 0) (h : ∃ o, cutO o (k.drop m) = none) : False := by
  obtain ⟨o, ho⟩ := h
  subst hc1 hd0
  rw [drop_two hd hc, cutO_end] at ho
  cases ho
theorem byte_eq {c : UInt8} {n : Nat} (hn : n < 256) (h : (c.toNat : Int) = n) : c = UInt8.ofNat n := by
  apply UInt8.toNat_inj.1
  rw [UInt8.toNat_ofNat_of_lt' hn]
  omega
end Go.AV.Ord
