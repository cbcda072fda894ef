/- Part 2 of what the law needs: OrdPlain, OctPlain, A11, A12, A13, OctAV, SchPlain, ValPlain, A18, ValAV, ValBits, ValAV2, ValCmp. -/
import Derived.Test.YtjbpfnoibeogbaaM1
import Derived.Lib.Builder
import Derived.Lib.UnsafeStr
import Derived.Laws.Externs
import Derived.Lib.Bytealg
import Derived.Lib.Overlaps
import Derived.Lib.AppendZerosOnto
namespace Go.AV.Ord
open Go.Op
def enc1 (c : UInt8) : List UInt8 := if c = 0 then [0, 255] else [c]
def enc0 (l : List UInt8) : List UInt8 := l.flatMap enc1
def encT (l : List UInt8) : List UInt8 := enc0 l ++ [0, 1]
theorem enc1_len (c : UInt8) : 1 ≤ (enc1 c).length ∧ (enc1 c).length ≤ 2 := by unfold enc1; split <;> simp
theorem enc0_len : ∀ l, l.length ≤ (enc0 l).length ∧ (enc0 l).length ≤ 2 * l.length
  | [] => by simp [enc0]
  | c :: l => by
    have h1 := enc1_len c
    have h2 := enc0_len l
    simp only [enc0, List.flatMap_cons, List.length_append, List.length_cons] at h2 ⊢
    omega
theorem encT_len (l : List UInt8) : (encT l).length = (enc0 l).length + 2 := by simp [encT]
theorem enc0_snoc (l : List UInt8) (c : UInt8) : enc0 (l ++ [c]) = enc0 l ++ enc1 c := by simp [enc0]
theorem take_snoc {α : Type} {l : List α} {k : Nat} {c : α} (h : l[k]? = some c) : l.take (k + 1) = l.take k ++ [c] := by
  rw [List.take_add_one, h]; rfl
theorem less_irrefl : ∀ a : List UInt8, bytesLess a a = false
  | [] => rfl
  | c :: a => by simp [bytesLess, less_irrefl a]
theorem less_append : ∀ (x m o : List UInt8), bytesLess (x ++ m) (x ++ o) = bytesLess m o
  | [], _, _ => rfl
  | c :: x, m, o => by simp [bytesLess, less_append x m o]
theorem less_total : ∀ {a b : List UInt8}, a ≠ b → bytesLess b a = !bytesLess a b
  | [], [], h => absurd rfl h
  | [], _ :: _, _ => by simp [bytesLess]
  | _ :: _, [], _ => by simp [bytesLess]
  | c :: a, d :: b, h => by
    by_cases hcd : c = d
    · subst hcd
      have := less_total (a := a) (b := b) (fun e => h (by rw [e]))
      simp [bytesLess, this]
    · have h1 : (c == d) = false := by simpa using hcd
      have h2 : (d == c) = false := by simpa using Ne.symm hcd
      have hn : c.toNat ≠ d.toNat := fun e => hcd (UInt8.toNat_inj.1 e)
      have h3 : decide (d < c) = !decide (c < d) := by
        by_cases hlt : c < d
        · have : ¬ d < c := by rw [UInt8.lt_iff_toNat_lt] at *; omega
          simp [hlt, this]
        · have : d < c := by rw [UInt8.lt_iff_toNat_lt] at *; omega
          simp [hlt, this]
      simp [bytesLess, h1, h2, h3]
theorem less_ne {a b : List UInt8} (h : bytesLess a b = true) : a ≠ b := by
  intro e; subst e; rw [less_irrefl] at h; cases h
theorem less_asymm {a b : List UInt8} (h : bytesLess a b = true) : bytesLess b a = false := by
  rw [less_total (less_ne h), h]; rfl
theorem less_trans : ∀ {a b c : List UInt8}, bytesLess a b = true → bytesLess b c = true → bytesLess a c = true
  | _, _, [], _, h => by cases ‹List UInt8› <;> simp [bytesLess] at h
  | [], _, _ :: _, _, _ => rfl
  | _ :: _, [], _, h, _ => by simp [bytesLess] at h
  | x :: a, y :: b, z :: c, h, k => by
    simp only [bytesLess, Bool.or_eq_true, decide_eq_true_eq, Bool.and_eq_true, beq_iff_eq] at h k ⊢
    rcases h with h | ⟨rfl, h⟩
    · rcases k with k | ⟨rfl, k⟩
      · exact .inl (by rw [UInt8.lt_iff_toNat_lt] at *; omega)
      · exact .inl h
    · rcases k with k | ⟨rfl, k⟩
      · exact .inl k
      · exact .inr ⟨rfl, less_trans h k⟩
theorem less_ext : ∀ {a b : List UInt8}, a.length = b.length → bytesLess a b = true → ∀ m o, bytesLess (a ++ m) (b ++ o) = true
  | [], [], _, h => by simp [bytesLess] at h
  | x :: a, y :: b, hl, h => by
    intro m o
    simp only [bytesLess, Bool.or_eq_true, decide_eq_true_eq, Bool.and_eq_true, beq_iff_eq, List.cons_append] at h ⊢
    rcases h with h | ⟨rfl, h⟩
    · exact .inl h
    · exact .inr ⟨rfl, less_ext (by simpa using hl) h m o⟩
  | [], _ :: _, hl, _ => by simp at hl
  | _ :: _, [], hl, _ => by simp at hl
theorem pos_of_ne {c : UInt8} (h : c ≠ 0) : 0 < c := by
  rw [UInt8.lt_iff_toNat_lt]
  have : c.toNat ≠ 0 := fun e => h (UInt8.toNat_inj.1 (by simpa using e))
  simpa using Nat.pos_of_ne_zero this
theorem not_lt_zero (c : UInt8) : ¬ c < 0 := by rw [UInt8.lt_iff_toNat_lt]; simp
theorem encT_cons (c : UInt8) (l : List UInt8) : encT (c :: l) = enc1 c ++ encT l := by simp [encT, enc0]
theorem less_encT : ∀ {a b : List UInt8}, a ≠ b → ∀ m o, bytesLess (encT a ++ m) (encT b ++ o) = bytesLess a b
  | [], [], h, _, _ => absurd rfl h
  | [], d :: b, _, m, o => by
    rw [encT_cons]
    by_cases hd : d = 0
    · subst hd; simp [encT, enc0, enc1, bytesLess]
    · have := pos_of_ne hd
      simp [encT, enc0, enc1, bytesLess, hd, this]
  | c :: a, [], _, m, o => by
    rw [encT_cons]
    by_cases hc : c = 0
    · subst hc; simp [encT, enc0, enc1, bytesLess]
    · have := not_lt_zero c
      simp [encT, enc0, enc1, bytesLess, hc, this]
  | c :: a, d :: b, h, m, o => by
    rw [encT_cons, encT_cons]
    by_cases hcd : c = d
    · subst hcd
      rw [List.append_assoc, List.append_assoc, less_append, less_encT (fun e => h (by rw [e]))]
      simp [bytesLess]
    · have hb : (c == d) = false := by simpa using hcd
      by_cases hc : c = 0
      · subst hc
        have hd : d ≠ 0 := fun e => hcd e.symm
        have := pos_of_ne hd
        simp [enc1, bytesLess, hd, this]
      · by_cases hd : d = 0
        · subst hd
          have := not_lt_zero c
          simp [enc1, bytesLess, hc, hb, this]
        · simp [enc1, hc, hd, bytesLess, hb]
theorem encT_inj {a b : List UInt8} {m o : List UInt8} (h : encT a ++ m = encT b ++ o) : a = b := by
  by_cases hab : a = b
  · exact hab
  · have h1 := less_encT hab m o
    rw [h, less_irrefl] at h1
    have h2 := less_encT (Ne.symm hab) m m
    have h3 := less_total hab
    rw [← h1] at h3
    have h4 := less_encT (Ne.symm hab) o m
    rw [← h, less_irrefl] at h4
    rw [← h4] at h3
    simp at h3
def byL (a b : List UInt8) : Int := if bytesLess a b then -1 else if !(bytesLess a b || a == b) then 1 else 0
theorem byL_append (x m o : List UInt8) : byL (x ++ m) (x ++ o) = byL m o := by
  have : (x ++ m == x ++ o) = (m == o) := by
    rw [Bool.eq_iff_iff]
    simp only [beq_iff_eq]
    exact ⟨fun e => List.append_cancel_left e, fun e => by rw [e]⟩
  simp only [byL, less_append, this]
theorem byL_ne {a b x y : List UInt8} (h : a ≠ b) (h2 : x ≠ y) (hl : bytesLess x y = bytesLess a b) : byL x y = byL a b := by
  have e1 : (a == b) = false := by simpa using h
  have e2 : (x == y) = false := by simpa using h2
  simp only [byL, hl, e1, e2]
theorem byL_encT {a b : List UInt8} (h : a ≠ b) (m o : List UInt8) : byL (encT a ++ m) (encT b ++ o) = byL a b :=
  byL_ne h (fun e => h (encT_inj e)) (less_encT h m o)
theorem byL_self (a : List UInt8) : byL a a = 0 := by simp [byL, less_irrefl]
theorem byL_lt {a b : List UInt8} (h : bytesLess a b = true) : byL a b = -1 := by simp [byL, h]
theorem byL_gt {a b : List UInt8} (h : bytesLess b a = true) : byL a b = 1 := by
  have h1 := less_asymm h
  have h2 : (a == b) = false := by simpa using (less_ne h).symm
  simp [byL, h1, h2]
def be : Nat → Nat → List UInt8
  | 0, _ => []
  | k + 1, x => UInt8.ofNat (x / 256 ^ k % 256) :: be k x
theorem be_len : ∀ k x, (be k x).length = k
  | 0, _ => rfl
  | k + 1, x => by simp [be, be_len k]
theorem be_mod (k : Nat) : ∀ j x, j ≤ k → be j (x % 256 ^ k) = be j x
  | 0, _, _ => rfl
  | j + 1, x, h => by
    have : x % 256 ^ k / 256 ^ j % 256 = x / 256 ^ j % 256 := by
      have e : (256 : Nat) ^ k = 256 ^ j * (256 * 256 ^ (k - (j + 1))) := by
        rw [← Nat.mul_assoc, ← Nat.pow_succ, ← Nat.pow_add]
        congr 1
        omega
      rw [e, Nat.mod_mul_right_div_self, Nat.mod_mul_right_mod]
    rw [be, be, this, be_mod k j x (by omega)]
theorem ofNat_lt {m n : Nat} (hm : m < 256) (hn : n < 256) : (UInt8.ofNat m < UInt8.ofNat n) ↔ m < n := by
  rw [UInt8.lt_iff_toNat_lt]
  simp [UInt8.toNat_ofNat', Nat.mod_eq_of_lt hm, Nat.mod_eq_of_lt hn]
theorem be_less : ∀ k x y, x < 256 ^ k → y < 256 ^ k → x < y → bytesLess (be k x) (be k y) = true
  | 0, x, y, hx, hy, h => by simp at hx hy; omega
  | k + 1, x, y, hx, hy, h => by
    have hp : 0 < 256 ^ k := Nat.pow_pos (by decide)
    have h1 : x / 256 ^ k < 256 := by rw [Nat.div_lt_iff_lt_mul hp]; rw [Nat.pow_succ] at hx; omega
    have h2 : y / 256 ^ k < 256 := by rw [Nat.div_lt_iff_lt_mul hp]; rw [Nat.pow_succ] at hy; omega
    have h3 : x / 256 ^ k ≤ y / 256 ^ k := Nat.div_le_div_right (Nat.le_of_lt h)
    simp only [be, bytesLess, Nat.mod_eq_of_lt h1, Nat.mod_eq_of_lt h2, Bool.or_eq_true, decide_eq_true_eq, Bool.and_eq_true, beq_iff_eq]
    by_cases he : x / 256 ^ k = y / 256 ^ k
    · refine .inr ⟨by rw [he], ?_⟩
      have hx' := be_mod k k x (Nat.le_refl _)
      have hy' := be_mod k k y (Nat.le_refl _)
      rw [← hx', ← hy']
      refine be_less k _ _ (Nat.mod_lt _ hp) (Nat.mod_lt _ hp) ?_
      have e1 := Nat.div_add_mod x (256 ^ k)
      have e2 := Nat.div_add_mod y (256 ^ k)
      rw [he] at e1
      omega
    · exact .inl ((ofNat_lt h1 h2).2 (by omega))
def off (n : Int) : Nat := (n + 9223372036854775808).toNat
def encI (n : Int) : List UInt8 := be 8 (off n)
def i64 (n : Int) : Prop := -9223372036854775808 ≤ n ∧ n ≤ 9223372036854775807
theorem encI_len (n : Int) : (encI n).length = 8 := be_len 8 _
theorem off_lt {n : Int} (h : i64 n) : off n < 256 ^ 8 := by unfold off; unfold i64 at h; omega
theorem encI_less {a b : Int} (ha : i64 a) (hb : i64 b) (h : a < b) : bytesLess (encI a) (encI b) = true :=
  be_less 8 _ _ (off_lt ha) (off_lt hb) (by unfold off; unfold i64 at ha hb; omega)
def val (l : List UInt8) : Nat := l.foldl (fun x c => x * 256 + c.toNat) 0
theorem val_snoc (l : List UInt8) (c : UInt8) : val (l ++ [c]) = val l * 256 + c.toNat := by simp [val]
theorem val_from : ∀ (l : List UInt8) (x : Nat), l.foldl (fun x c => x * 256 + c.toNat) x = x * 256 ^ l.length + val l
  | [], x => by simp [val]
  | c :: l, x => by
    have h1 := val_from l (x * 256 + c.toNat)
    have h2 := val_from l (0 * 256 + c.toNat)
    simp only [val, List.foldl_cons, List.length_cons, Nat.pow_succ] at h1 h2 ⊢
    rw [h1, h2]
    simp only [Nat.zero_mul, Nat.zero_add, Nat.add_mul]
    rw [Nat.mul_comm (256 ^ l.length) 256, Nat.mul_assoc]
    omega
theorem val_cons (c : UInt8) (l : List UInt8) : val (c :: l) = c.toNat * 256 ^ l.length + val l := by
  have := val_from l (0 * 256 + c.toNat)
  simpa [val] using this
theorem val_lt : ∀ l : List UInt8, val l < 256 ^ l.length
  | [] => by simp [val]
  | c :: l => by
    have h1 := val_lt l
    have h2 := c.toNat_lt
    rw [val_cons, List.length_cons, Nat.pow_succ]
    have h3 : c.toNat * 256 ^ l.length ≤ 255 * 256 ^ l.length := Nat.mul_le_mul_right _ (by omega)
    omega
theorem val_be : ∀ k x, x < 256 ^ k → val (be k x) = x
  | 0, x, h => by simp at h; subst h; rfl
  | k + 1, x, h => by
    have hp : 0 < 256 ^ k := Nat.pow_pos (by decide)
    have h1 : x / 256 ^ k < 256 := by rw [Nat.div_lt_iff_lt_mul hp]; rw [Nat.pow_succ] at h; omega
    rw [be, val_cons, be_len, ← be_mod k k x (Nat.le_refl _), val_be k _ (Nat.mod_lt _ hp), Nat.mod_eq_of_lt h1]
    have : (UInt8.ofNat (x / 256 ^ k)).toNat = x / 256 ^ k := by rw [UInt8.toNat_ofNat']; exact Nat.mod_eq_of_lt h1
    rw [this, Nat.mul_comm]
    exact Nat.div_add_mod x (256 ^ k)
theorem be_val : ∀ l : List UInt8, be l.length (val l) = l
  | [] => rfl
  | c :: l => by
    have hp : 0 < 256 ^ l.length := Nat.pow_pos (by decide)
    have h1 := val_lt l
    rw [List.length_cons, be, val_cons]
    have e1 : (c.toNat * 256 ^ l.length + val l) / 256 ^ l.length = c.toNat := by
      rw [Nat.add_comm, Nat.add_mul_div_right _ _ hp, Nat.div_eq_of_lt h1]; omega
    have e2 : (c.toNat * 256 ^ l.length + val l) % 256 ^ l.length = val l := by
      rw [Nat.add_comm, Nat.add_mul_mod_self_right, Nat.mod_eq_of_lt h1]
    rw [e1, ← be_mod l.length l.length _ (Nat.le_refl _), e2, be_val l]
    have := c.toNat_lt
    rw [Nat.mod_eq_of_lt (by omega), UInt8.ofNat_toNat]
def afterN (l : List UInt8) : Nat → Option (List UInt8)
  | 0 => none
  | n + 1 => match l[n]? with
    | some c => if c.toNat < 255 then some (l.take n ++ [c + 1]) else afterN l n
    | none => none
def after (l : List UInt8) : Option (List UInt8) := afterN l l.length
def begins (a b : List UInt8) : Bool := decide (b.length ≤ a.length) && (a.take b.length == b)
end Go.AV.Ord
namespace Go.AV.Ord
theorem or_byte {x c : Nat} (hx : x < 256 ^ 7) (hc : c < 256) : IntKind.u64.wrap ((BitVec.ofInt IntKind.u64.bits ((x : Int) * 256) ||| BitVec.ofInt IntKind.u64.bits (c : Int)).toNat : Int) = ((x * 256 + c : Nat) : Int) := by
  have hx' : x < 72057594037927936 := by simpa using hx
  have hb : IntKind.u64.bits = 64 := rfl
  have e1 : (BitVec.ofInt IntKind.u64.bits ((x : Int) * 256)).toNat = 2 ^ 8 * x := by
    rw [hb, BitVec.toNat_ofInt]
    omega
  have e2 : (BitVec.ofInt IntKind.u64.bits (c : Int)).toNat = c := by
    rw [hb, BitVec.toNat_ofInt]
    omega
  rw [BitVec.toNat_or, e1, e2, ← Nat.two_pow_add_eq_or_of_lt (by simpa using hc), wrap_u64 (by omega)]
  omega
end Go.AV.Ord
namespace Go.AV.Ord
def keyL (ps : List (List UInt8)) : List UInt8 := ps.flatMap encT
theorem keyL_le : ∀ ps : List (List UInt8), (keyL ps).length ≤ 2 * (ps.map List.length).sum + 2 * ps.length
  | [] => by simp [keyL]
  | p :: ps => by
    have h1 := keyL_le ps
    have h2 := enc0_len p
    have h3 := encT_len p
    simp only [keyL, List.flatMap_cons, List.length_append, List.map_cons, List.sum_cons, List.length_cons] at h1 ⊢
    omega
theorem sum_take_le : ∀ (ls : List Nat) (k : Nat) (x : Nat), ls[k]? = some x → (ls.take k).sum + x ≤ ls.sum
  | [], k, x, h => by simp at h
  | y :: ls, 0, x, h => by simp at h; subst h; simp
  | y :: ls, k + 1, x, h => by
    have := sum_take_le ls k x (by simpa using h)
    simp only [List.take_succ_cons, List.sum_cons]
    omega
theorem keyL_len {ps : List (List UInt8)} {k : Nat} {p : List UInt8} (h : ps[k]? = some p) : (keyL (ps.take k)).length + 2 * p.length + 2 ≤ 2 * (ps.map List.length).sum + 2 * ps.length := by
  have h1 := keyL_le (ps.take k)
  have h2 := sum_take_le (ps.map List.length) k p.length (by simp [h])
  have hk : k < ps.length := (List.getElem?_eq_some_iff.1 h).1
  rw [← List.map_take] at h2
  have h3 : (ps.take k).length = k := by simp; omega
  rw [h3] at h1
  omega
end Go.AV.Ord
namespace Go.AV.Ord
theorem be_get : ∀ (k x j : Nat), j < k → (be k x)[j]? = some (UInt8.ofNat (x / 256 ^ (k - 1 - j) % 256))
  | 0, _, _, h => by omega
  | k + 1, x, 0, _ => by simp [be]
  | k + 1, x, j + 1, h => by
    have := be_get k x j (by omega)
    rw [be, List.getElem?_cons_succ, this]
    have e : k - 1 - j = k + 1 - 1 - (j + 1) := by omega
    rw [e]
theorem shr_off (X : Nat) {j : Nat} (h : j < 8) : ((X : Nat) : Int).fdiv (2 ^ (min ((8 : Int) * (7 - (j : Int))).toNat IntKind.u64.bits)) = ((X / 256 ^ (7 - j) : Nat) : Int) := by
  have e1 : min ((8 : Int) * (7 - (j : Int))).toNat IntKind.u64.bits = 8 * (7 - j) := by
    have : IntKind.u64.bits = 64 := rfl
    rw [this]
    omega
  have e2 : (2 : Int) ^ (8 * (7 - j)) = ((256 ^ (7 - j) : Nat) : Int) := by
    rw [show (256 : Nat) = 2 ^ 8 from rfl, ← Nat.pow_mul]
    exact (Int.natCast_pow 2 _).symm
  rw [e1, e2, Int.fdiv_eq_ediv_of_nonneg _ (Int.natCast_nonneg _)]
  rfl
theorem shl8 {x : Nat} (h : x < 256 ^ 7) : IntKind.u64.wrap ((x : Int) * 2 ^ (min (8 : Int).toNat IntKind.u64.bits)) = (x : Int) * 256 := by
  have h' : x < 72057594037927936 := by simpa using h
  have : (2 : Int) ^ (min (8 : Int).toNat IntKind.u64.bits) = 256 := by decide
  rw [this, wrap_u64 (by omega)]
theorem conv_byte (q : Nat) : IntKind.u8.wrap ((q : Nat) : Int) = ((UInt8.ofNat (q % 256)).toNat : Int) := by
  have : IntKind.u8.wrap ((q : Nat) : Int) = ((q : Nat) : Int) % 256 := by simp [IntKind.wrap, IntKind.bits, IntKind.signed]
  rw [this, UInt8.toNat_ofNat']
  omega
theorem afterN_succ {l : List UInt8} {n : Nat} {c : UInt8} (h : l[n]? = some c) : afterN l (n + 1) = if c.toNat < 255 then some (l.take n ++ [c + 1]) else afterN l n := by
  rw [afterN, h]
theorem byte_succ {c : UInt8} (h : c.toNat < 255) : ((c.toNat : Nat) : Int) + 1 = ((c + 1).toNat : Int) := by
  rw [UInt8.toNat_add]
  have : (1 : UInt8).toNat = 1 := rfl
  rw [this]
  omega
end Go.AV.Ord
namespace Go.AV.Ord
open Go.Op
theorem wf_i64 {n : Int} (h : (Lit.int .i64 n).wf = true) : i64 n := by
  have hb : IntKind.i64.min = -9223372036854775808 ∧ IntKind.i64.max = 9223372036854775807 := by decide
  simp only [Lit.wf, Bool.and_eq_true, decide_eq_true_eq, hb.1, hb.2] at h
  exact h
def aft : List UInt8 → Option (List UInt8)
  | [] => none
  | c :: p => match aft p with
    | some x => some (c :: x)
    | none => if c.toNat < 255 then some [c + 1] else none
theorem aft_snoc (c : UInt8) : ∀ l : List UInt8, aft (l ++ [c]) = if c.toNat < 255 then some (l ++ [c + 1]) else aft l
  | [] => by simp [aft]
  | d :: l => by
    rw [List.cons_append, aft, aft_snoc c l]
    by_cases h : c.toNat < 255
    · simp [h]
    · simp only [h, if_false]
      rfl
theorem afterN_eq (l : List UInt8) : ∀ k, k ≤ l.length → afterN l k = aft (l.take k)
  | 0, _ => by simp [afterN, aft]
  | k + 1, h => by
    have hc : l[k]? = some l[k] := by simp [show k < l.length by omega]
    rw [afterN_succ hc, take_snoc hc, aft_snoc, afterN_eq l k (by omega)]
theorem aft_none : ∀ l : List UInt8, (aft l).isSome = !(l.all fun c => c == 255)
  | [] => rfl
  | c :: l => by
    have ih := aft_none l
    rw [aft, List.all_cons]
    cases h : aft l with
    | some x => rw [h] at ih; simp at ih; simp [ih]
    | none =>
      rw [h] at ih
      have hl : (l.all fun c => c == 255) = true := by simpa using ih
      by_cases hc : c.toNat < 255
      · have : (c == 255) = false := by
          have : c ≠ 255 := by intro e; subst e; exact absurd hc (by decide)
          simpa using this
        simp [hc, this]
      · have : c = 255 := UInt8.toNat_inj.1 (by have := c.toNat_lt; show c.toNat = 255; omega)
        subst this
        simp [hl]
theorem begins_iff {a b : List UInt8} : begins a b = true ↔ ∃ r, a = b ++ r := by
  simp only [begins, Bool.and_eq_true, decide_eq_true_eq, beq_iff_eq]
  constructor
  · rintro ⟨_, h⟩
    exact ⟨a.drop b.length, by have := List.take_append_drop b.length a; rw [h] at this; exact this.symm⟩
  · rintro ⟨r, rfl⟩
    simp
theorem begins_cons (c d : UInt8) (a b : List UInt8) : begins (c :: a) (d :: b) = (c == d && begins a b) := by
  rw [Bool.eq_iff_iff]
  simp only [begins_iff, Bool.and_eq_true, beq_iff_eq, List.cons_append, List.cons.injEq]
  constructor
  · rintro ⟨r, rfl, rfl⟩; exact ⟨rfl, r, rfl⟩
  · rintro ⟨rfl, r, rfl⟩; exact ⟨r, rfl, rfl⟩
theorem begins_nil (a : List UInt8) : begins a [] = true := begins_iff.2 ⟨a, rfl⟩
theorem nil_begins (c : UInt8) (a : List UInt8) : begins [] (c :: a) = false := by simp [begins]
theorem aft_all : ∀ (p s : List UInt8), aft p = none → (bytesLess s p || begins s p) = true
  | [], s, _ => by simp [begins_nil]
  | c :: p, s, h => by
    have h2 : aft p = none ∧ c = 255 := by
      rw [aft] at h
      cases hp : aft p with
      | some x => rw [hp] at h; cases h
      | none =>
        rw [hp] at h
        refine ⟨rfl, UInt8.toNat_inj.1 ?_⟩
        have := c.toNat_lt
        by_cases hc : c.toNat < 255
        · simp [hc] at h
        · show c.toNat = 255; omega
    obtain ⟨h2, rfl⟩ := h2
    cases s with
    | nil => simp [bytesLess]
    | cons d s =>
      have ih := aft_all p s h2
      rw [begins_cons]
      by_cases hd : d = 255
      · subst hd; simpa [bytesLess] using ih
      · have : d < 255 := by
          rw [UInt8.lt_iff_toNat_lt]
          have := d.toNat_lt
          have h3 : d.toNat ≠ 255 := fun e => hd (UInt8.toNat_inj.1 e)
          show d.toNat < 255
          omega
        simp [bytesLess, this]
theorem lt_succ {c : UInt8} (h : c.toNat < 255) (d : UInt8) : d < c + 1 ↔ d.toNat ≤ c.toNat := by
  rw [UInt8.lt_iff_toNat_lt]
  have := byte_succ h
  omega
theorem aft_above : ∀ {p a : List UInt8}, aft p = some a → ∀ r, bytesLess (p ++ r) a = true
  | [], a, h, _ => by cases h
  | c :: p, a, h, r => by
    rw [aft] at h
    cases hp : aft p with
    | some x =>
      rw [hp] at h
      cases h
      have := aft_above hp r
      simp [bytesLess, this]
    | none =>
      rw [hp] at h
      by_cases hc : c.toNat < 255
      · simp [hc] at h
        subst h
        have := (lt_succ hc c).2 (Nat.le_refl _)
        simp [bytesLess, this]
      · simp [hc] at h
theorem aft_below : ∀ {p a s : List UInt8}, aft p = some a → bytesLess s p = false → bytesLess s a = true → begins s p = true
  | [], a, s, h, _, _ => by cases h
  | c :: p, a, [], h, h1, _ => by simp [bytesLess] at h1
  | c :: p, a, d :: s, h, h1, h2 => by
    rw [begins_cons]
    rw [aft] at h
    simp only [bytesLess, Bool.or_eq_false_iff, decide_eq_false_iff_not, Bool.and_eq_false_iff] at h1
    cases hp : aft p with
    | some x =>
      rw [hp] at h
      cases h
      simp only [bytesLess, Bool.or_eq_true, decide_eq_true_eq, Bool.and_eq_true, beq_iff_eq] at h2
      rcases h2 with h2 | ⟨rfl, h2⟩
      · exact absurd h2 h1.1
      · have h3 : bytesLess s p = false := by
          rcases h1.2 with h | h
          · simp at h
          · exact h
        simp [aft_below hp h3 h2]
    | none =>
      rw [hp] at h
      by_cases hc : c.toNat < 255
      · simp [hc] at h
        subst h
        have hd : d.toNat ≤ c.toNat := by
          cases s <;> simp only [bytesLess, Bool.or_eq_true, decide_eq_true_eq, Bool.and_eq_true, beq_iff_eq] at h2
          all_goals
            rcases h2 with h2 | ⟨_, h2⟩
            · exact (lt_succ hc d).1 h2
            · cases h2
        have hdc : d = c := UInt8.toNat_inj.1 (by
          have := h1.1
          rw [UInt8.lt_iff_toNat_lt] at this
          omega)
        subst hdc
        have h3 : bytesLess s p = false := by
          rcases h1.2 with h | h
          · simp at h
          · exact h
        have h4 := aft_all p s hp
        rw [h3] at h4
        simpa using h4
      · simp [hc] at h
theorem aft_not : ∀ {p a : List UInt8}, aft p = some a → begins a p = false
  | [], a, h => by cases h
  | c :: p, a, h => by
    rw [aft] at h
    cases hp : aft p with
    | some x =>
      rw [hp] at h
      cases h
      simp [begins_cons, aft_not hp]
    | none =>
      rw [hp] at h
      by_cases hc : c.toNat < 255
      · simp [hc] at h
        subst h
        have : ¬ c + 1 = c := by
          intro e
          have := byte_succ hc
          rw [e] at this
          omega
        simp [begins_cons, this]
      · simp [hc] at h
end Go.AV.Ord
namespace Go.AV.Ord
open Go.Op
theorem encT_ne (l : List UInt8) : ∃ c r, encT l = c :: r := by
  cases l with
  | nil => exact ⟨0, [1], rfl⟩
  | cons c l => rw [encT_cons]; unfold enc1; split <;> exact ⟨_, _, rfl⟩
def pref : List (List UInt8) → List (List UInt8) → Bool
  | [], _ => true
  | _ :: _, [] => false
  | a :: as1, b :: bs => a == b && pref as1 bs
theorem begins_encT {a b : List UInt8} {x y : List UInt8} : begins (encT a ++ x) (encT b ++ y) = (a == b && begins x y) := by
  rw [Bool.eq_iff_iff]
  constructor
  · intro h
    obtain ⟨r, hr⟩ := begins_iff.1 h
    rw [List.append_assoc] at hr
    have e := encT_inj hr
    subst e
    rw [List.append_cancel_left hr]
    simp [begins_iff]
  · intro h
    simp only [Bool.and_eq_true, beq_iff_eq] at h
    obtain ⟨rfl, h⟩ := h
    obtain ⟨r, rfl⟩ := begins_iff.1 h
    exact begins_iff.2 ⟨r, by simp⟩
theorem begins_keyL : ∀ (b a : List (List UInt8)), begins (keyL b) (keyL a) = pref a b
  | b, [] => by simp [keyL, begins_nil, pref]
  | [], a :: as1 => by
    obtain ⟨c, r, h⟩ := encT_ne a
    simp [keyL, h, nil_begins, pref]
  | b :: bs, a :: as1 => by
    have h := begins_keyL bs as1
    simp only [keyL, List.flatMap_cons] at h ⊢
    rw [begins_encT, h, pref]
    by_cases e : b = a
    · subst e; simp
    · rw [beq_eq_false_iff_ne.2 e, beq_eq_false_iff_ne.2 (Ne.symm e)]
theorem aft_some {l : List UInt8} {c : UInt8} (h : c ∈ l) (hc : c ≠ 255) : (aft l).isSome = true := by
  rw [aft_none]
  simp only [Bool.not_eq_true', List.all_eq_false]
  exact ⟨c, h, by simpa using hc⟩
theorem aft_keyL (a : List (List UInt8)) : (aft (keyL a)).isSome = !a.isEmpty := by
  cases a with
  | nil => rfl
  | cons x xs => exact aft_some (c := 1) (by simp [keyL, encT]) (by decide)
theorem pref_take (a b : List (List UInt8)) (k : Nat) {x y : List UInt8} (hx : a[k]? = some x) (hy : b[k]? = some y) : pref (a.take (k + 1)) b = (pref (a.take k) b && x == y) := by
  induction k generalizing a b with
  | zero =>
    cases a <;> cases b <;> simp_all [pref]
  | succ k ih =>
    cases a with
    | nil => simp at hx
    | cons c as1 =>
      cases b with
      | nil => simp at hy
      | cons d bs =>
        simp only [List.getElem?_cons_succ] at hx hy
        have := ih as1 bs hx hy
        simp only [List.take_succ_cons, pref] at this ⊢
        rw [this, Bool.and_assoc]
theorem sum_short : ∀ {l : List (List UInt8)}, (∀ x ∈ l, x.length ≤ 40) → (l.map List.length).sum ≤ 40 * l.length
  | [], _ => by simp
  | x :: l, h => by
    have h1 := h x (by simp)
    have h2 := sum_short (l := l) fun y hy => h y (by simp [hy])
    simp only [List.map_cons, List.sum_cons, List.length_cons]
    omega
theorem pref_len : ∀ {a b : List (List UInt8)}, b.length < a.length → pref a b = false
  | [], _, h => by simp at h
  | _ :: _, [], _ => rfl
  | a :: as1, b :: bs, h => by
    have := pref_len (a := as1) (b := bs) (by simpa using h)
    simp [pref, this]
theorem pref_none {a b : List (List UInt8)} {k : Nat} (h : pref (a.take k) b = false) : pref a b = false := by
  induction k generalizing a b with
  | zero => simp [pref] at h
  | succ k ih =>
    cases a with
    | nil => simp [pref] at h
    | cons c as1 =>
      cases b with
      | nil => rfl
      | cons d bs =>
        simp only [List.take_succ_cons, pref] at h ⊢
        cases hc : (c == d) with
        | false => simp
        | true => rw [hc] at h; simpa using ih (by simpa using h)
end Go.AV.Ord
namespace Go.AV.Ord
open Go.Op
end Go.AV.Ord
namespace Go.AV.Ord
open Go.Op
def cutL : List UInt8 → Option (List UInt8 × List UInt8)
  | [] => none
  | c :: r => if c = 0 then match r with
      | [] => none
      | d :: r => if d = 1 then some ([], r) else if d = 255 then (cutL r).map fun p => (0 :: p.1, p.2) else none
    else (cutL r).map fun p => (c :: p.1, p.2)
theorem cutL_ne {c : UInt8} (r : List UInt8) (h : c ≠ 0) : cutL (c :: r) = (cutL r).map fun p => (c :: p.1, p.2) := by
  rw [cutL.eq_def]
  simp only []
  rw [if_neg h]
theorem cutL_0 (d : UInt8) (r : List UInt8) : cutL (0 :: d :: r) = if d = 1 then some ([], r) else if d = 255 then (cutL r).map fun p => (0 :: p.1, p.2) else none := by
  rw [cutL.eq_def]
  simp only [if_true]
theorem cutL_00 : cutL [0] = none := rfl
theorem cut_encT : ∀ (a r : List UInt8), cutL (encT a ++ r) = some (a, r)
  | [], r => rfl
  | c :: a, r => by
    have ih := cut_encT a r
    rw [encT_cons, List.append_assoc]
    unfold enc1
    by_cases hc : c = 0
    · subst hc
      rw [if_pos rfl]
      show cutL (0 :: 255 :: (encT a ++ r)) = _
      rw [cutL_0, if_neg (by decide), if_pos rfl]
      simp [ih]
    · rw [if_neg hc]
      show cutL (c :: (encT a ++ r)) = _
      rw [cutL_ne _ hc]
      simp [ih]
theorem encT_cut : ∀ (n : Nat) (k a r : List UInt8), k.length ≤ n → cutL k = some (a, r) → encT a ++ r = k
  | 0, [], a, r, _, h => by simp [cutL] at h
  | 0, c :: k, a, r, hl, h => by simp at hl
  | n + 1, [], a, r, _, h => by simp [cutL] at h
  | n + 1, c :: k, a, r, hl, h => by
    by_cases hc : c = 0
    · subst hc
      match k, hl, h with
      | [], _, h => simp [cutL_00] at h
      | d :: k, hl, h =>
        rw [cutL_0] at h
        by_cases h1 : d = 1
        · subst h1
          simp at h
          obtain ⟨rfl, rfl⟩ := h
          rfl
        · rw [if_neg h1] at h
          by_cases h2 : d = 255
          · subst h2
            rw [if_pos rfl, Option.map_eq_some_iff] at h
            obtain ⟨⟨a', r'⟩, h3, h4⟩ := h
            cases h4
            rw [encT_cons]
            have := encT_cut n k a' r' (by simp at hl; omega) h3
            simp [enc1, this]
          · rw [if_neg h2] at h
            cases h
    · rw [cutL_ne _ hc, Option.map_eq_some_iff] at h
      obtain ⟨⟨a', r'⟩, h3, h4⟩ := h
      cases h4
      rw [encT_cons]
      have := encT_cut n k a' r' (by simp at hl; omega) h3
      simp [enc1, hc, this]
theorem cutL_iff {k a r : List UInt8} : cutL k = some (a, r) ↔ k = encT a ++ r :=
  ⟨fun h => (encT_cut _ k a r (Nat.le_refl _) h).symm, fun h => h ▸ cut_encT a r⟩
theorem drop_one {α : Type} {l : List α} {i : Nat} {c : α} (h : l[i]? = some c) : l.drop i = c :: l.drop (i + 1) := by
  obtain ⟨h1, rfl⟩ := List.getElem?_eq_some_iff.1 h
  rw [List.drop_eq_getElem_cons h1]
def partsN : Nat → List UInt8 → Option (List (List UInt8))
  | _, [] => some []
  | 0, _ :: _ => none
  | n + 1, k@(_ :: _) => (cutL k).bind fun p => (partsN n p.2).map (p.1 :: ·)
theorem cutL_len {k a r : List UInt8} (h : cutL k = some (a, r)) : r.length + 2 ≤ k.length := by
  rw [cutL_iff.1 h]
  have := encT_len a
  simp; omega
theorem partsN_fuel : ∀ (n m : Nat) (k : List UInt8), k.length ≤ n → k.length ≤ m → partsN n k = partsN m k
  | n, m, [], _, _ => by cases n <;> cases m <;> rfl
  | 0, _, _ :: _, h, _ => by simp at h
  | _, 0, _ :: _, _, h => by simp at h
  | n + 1, m + 1, c :: k, h, h' => by
    simp only [partsN]
    cases hc : cutL (c :: k) with
    | none => rfl
    | some p =>
      have := cutL_len (a := p.1) (r := p.2) hc
      simp only [Option.bind_some]
      rw [partsN_fuel n m p.2 (by omega) (by omega)]
def partsL (k : List UInt8) : Option (List (List UInt8)) := partsN k.length k
theorem partsL_nil : partsL [] = some [] := rfl
theorem partsL_step {k : List UInt8} (h : k ≠ []) : partsL k = (cutL k).bind fun p => (partsL p.2).map (p.1 :: ·) := by
  unfold partsL
  match k, h with
  | c :: k, _ =>
    simp only [List.length_cons, partsN]
    cases hc : cutL (c :: k) with
    | none => rfl
    | some p =>
      have := cutL_len (a := p.1) (r := p.2) hc
      simp only [Option.bind_some]
      rw [partsN_fuel k.length p.2.length p.2 (by simp at this; omega) (by omega)]
theorem parts_keyL : ∀ ps : List (List UInt8), partsL (keyL ps) = some ps
  | [] => rfl
  | p :: ps => by
    have hk : keyL (p :: ps) = encT p ++ keyL ps := by simp [keyL]
    have hne : keyL (p :: ps) ≠ [] := by rw [hk]; simp [encT]
    rw [partsL_step hne, hk, cut_encT]
    simp [parts_keyL ps]
theorem keyL_parts : ∀ (n : Nat) (k : List UInt8) (ps : List (List UInt8)), k.length ≤ n → partsL k = some ps → keyL ps = k
  | n, [], ps, _, h => by simp [partsL_nil] at h; subst h; rfl
  | 0, _ :: _, _, h, _ => by simp at h
  | n + 1, c :: k, ps, hl, h => by
    rw [partsL_step (by simp)] at h
    cases hc : cutL (c :: k) with
    | none => rw [hc] at h; cases h
    | some p =>
      rw [hc] at h
      simp only [Option.bind_some, Option.map_eq_some_iff] at h
      obtain ⟨qs, h1, rfl⟩ := h
      have h2 := cutL_len (a := p.1) (r := p.2) hc
      have h3 := keyL_parts n p.2 qs (by simp at hl h2; omega) h1
      have h4 := (cutL_iff (a := p.1) (r := p.2)).1 hc
      rw [h4]
      simp [keyL] at h3 ⊢
      exact h3
end Go.AV.Ord
namespace Go.AV.Ord
def partsA (k : List UInt8) : List (List UInt8) := (partsL k).getD []
def partsE (k : List UInt8) : Int := if (partsL k).isSome then 0 else 2
end Go.AV.Ord
namespace Go.AV.Ord
theorem keyL_ne {p : List UInt8} {ps : List (List UInt8)} : keyL (p :: ps) ≠ [] := by simp [keyL, encT]
theorem less_nil (b : List UInt8) : Go.Op.bytesLess b [] = false := by cases b <;> rfl
theorem byL_nil : ∀ b : List (List UInt8), byL (keyL []) (keyL b) = if b = [] then 0 else -1
  | [] => by simp [byL_self]
  | p :: ps => by
    have h : keyL (p :: ps) ≠ [] := keyL_ne
    cases hk : keyL (p :: ps) with
    | nil => exact absurd hk h
    | cons c r => simp [byL, keyL, Go.Op.bytesLess]
theorem nil_byL : ∀ b : List (List UInt8), byL (keyL b) (keyL []) = if b = [] then 0 else 1
  | [] => by simp [byL_self]
  | p :: ps => by
    have h : keyL (p :: ps) ≠ [] := keyL_ne
    cases hk : keyL (p :: ps) with
    | nil => exact absurd hk h
    | cons c r => simp [byL, keyL, Go.Op.bytesLess]
theorem byL_zero {x y : List UInt8} (h : byL x y = 0) : x = y := by
  unfold byL at h
  split at h
  · cases h
  · rename_i h1
    split at h
    · cases h
    · rename_i h2
      simpa [h1] using h2
theorem partsA_key (a : List (List UInt8)) : partsA (keyL a) = a := by simp [partsA, parts_keyL]
theorem partsE_key (a : List (List UInt8)) : partsE (keyL a) = 0 := by simp [partsE, parts_keyL]
end Go.AV.Ord
namespace Go.AV.Ord
end Go.AV.Ord
namespace Go.AV.Ord
theorem keyL_ge : ∀ ps : List (List UInt8), (ps.map List.length).sum + 2 * ps.length ≤ (keyL ps).length
  | [] => by simp
  | p :: ps => by
    have h1 := keyL_ge ps
    have h2 := encT_len p
    have h3 := enc0_len p
    simp only [keyL, List.flatMap_cons, List.length_append, List.map_cons, List.sum_cons, List.length_cons] at h1 ⊢
    omega
theorem parts_none {k : List UInt8} (h : ¬ partsE k = 0) : partsL k = none := by
  unfold partsE at h
  cases hp : partsL k with
  | none => rfl
  | some ps => simp [hp] at h
theorem parts_back {k : List UInt8} (h : partsE k = 0) : keyL (partsA k) = k := by
  unfold partsE at h
  cases hp : partsL k with
  | none => simp [hp] at h
  | some ps => simp only [partsA, hp, Option.getD_some]; exact keyL_parts _ k ps (Nat.le_refl _) hp
end Go.AV.Ord
namespace Go.AV.Oct
open Go.AV.Ord
def szN (x : Nat) : Nat := if h : x = 0 then 0 else szN (x / 256) + 1
termination_by x
decreasing_by omega
theorem szN_zero : szN 0 = 0 := by unfold szN; rfl
theorem szN_pos {x : Nat} (h : x ≠ 0) : szN x = szN (x / 256) + 1 := by rw [szN]; simp [h]
theorem szN_le : ∀ (k x : Nat), x < 256 ^ k → szN x ≤ k
  | 0, x, h => by have : x = 0 := by simpa using h
                  subst this; rw [szN_zero]; exact Nat.le_refl _
  | k + 1, x, h => by
    by_cases hx : x = 0
    · subst hx; rw [szN_zero]; omega
    · rw [szN_pos hx]
      have := szN_le k (x / 256) (by rw [Nat.pow_succ] at h; omega)
      omega
theorem lt_szN : ∀ (n x : Nat), x ≤ n → x < 256 ^ szN x
  | 0, x, h => by have : x = 0 := by omega
                  subst this; rw [szN_zero]; decide
  | n + 1, x, h => by
    by_cases hx : x = 0
    · subst hx; rw [szN_zero]; decide
    · rw [szN_pos hx, Nat.pow_succ]
      have := lt_szN n (x / 256) (by omega)
      omega
theorem szN_lt (x : Nat) : x < 256 ^ szN x := lt_szN x x (Nat.le_refl _)
theorem szN_ge : ∀ (n x : Nat), x ≤ n → x ≠ 0 → 256 ^ (szN x - 1) ≤ x
  | 0, x, h, hx => by omega
  | n + 1, x, h, hx => by
    rw [szN_pos hx]
    by_cases h2 : x / 256 = 0
    · rw [h2, szN_zero]; simp; omega
    · have h3 := szN_ge n (x / 256) (by omega) h2
      have h4 : szN (x / 256) ≠ 0 := by rw [szN_pos h2]; omega
      obtain ⟨m, hm⟩ : ∃ m, szN (x / 256) = m + 1 := ⟨szN (x / 256) - 1, by omega⟩
      rw [hm] at h3 ⊢
      simp only [Nat.add_sub_cancel] at h3 ⊢
      rw [Nat.pow_succ]
      omega
theorem szN_top {x : Nat} (h : x ≠ 0) : 256 ^ (szN x - 1) ≤ x := szN_ge x x (Nat.le_refl _) h
def numB (x : Nat) : List UInt8 := UInt8.ofNat (szN x) :: be (szN x) x
def textB (s : List UInt8) : List UInt8 := numB s.length ++ s
def flagB (b : Bool) : List UInt8 := [if b then 1 else 0]
theorem numB_len (x : Nat) : (numB x).length = szN x + 1 := by simp [numB, be_len]
abbrev RS := List UInt8 × Bool
def badN (s : List UInt8) : Bool := match s with
  | [] => true
  | c :: r => decide (8 < c.toNat) || decide (r.length < c.toNat) || (decide (0 < c.toNat) && (r.headD 0 == 0))
def rNum (most : Int) (st : RS) : Nat × RS :=
  if st.2 then (0, st) else if badN st.1 then (0, ([], true)) else
    let n := (st.1.headD 0).toNat
    let x := val ((st.1.drop 1).take n)
    if (max most 0) < (x : Int) then (0, ([], true)) else (x, (st.1.drop (1 + n), false))
def rText (most : Int) (st : RS) : List UInt8 × RS :=
  let r := rNum most st
  if r.2.2 then ([], r.2) else if r.2.1.length < r.1 then ([], ([], true)) else (r.2.1.take r.1, (r.2.1.drop r.1, false))
def rFlag (st : RS) : Bool × RS :=
  if st.2 then (false, st) else match st.1 with
    | [] => (false, ([], true))
    | c :: r => if 1 < c.toNat then (false, ([], true)) else (c == 1, (r, false))
def rErr (st : RS) : Int := if st.2 then 2 else 0
def rEnd (st : RS) : Int := if 0 < st.1.length then 2 else rErr st
end Go.AV.Oct
namespace Go.AV
section
variable {P : Program} {T T' : List AV} {H : HS} {Q : Post} {dst : Option Tmp} {ty : TypeId} {pos : String} {after : Array Edge} {gd : Option (Nat × Bool)}
end
end Go.AV
namespace Go.AV
open Go.RowKit
inductive Arr (H : HS) (e : TypeId) (sz : Nat) : AV → Nat → List AV → Prop
  | nil : Arr H e sz nilS 0 []
  | arr (id n cap : Nat) (cs us : List AV) (hb : H.blks[id]? = some ⟨e, cs, false⟩) (hc : cs.length = cap * sz) (hn : n ≤ cap) (hu : cs.take (n * sz) = us) : Arr H e sz (.arr id n cap) n us
structure Kept (H H' : HS) (v : AV) : Prop where
  toks : H'.toks = H.toks
  nb : H.nb ≤ H'.nb
  blks : ∀ j, j < H.nb → (∀ n cap, v ≠ .arr j n cap) → H'.blks[j]? = H.blks[j]?
  maps : H'.maps = H.maps
theorem putL_take (vs cs : List AV) (k : Nat) (h : k + vs.length ≤ cs.length) : (putL cs k vs).take (k + vs.length) = cs.take k ++ vs := by
  apply List.ext_getElem?
  intro j
  rw [List.getElem?_take]
  by_cases hj : j < k + vs.length
  · rw [if_pos hj, putL_get _ _ _ _ h]
    by_cases hk : k ≤ j
    · rw [if_pos ⟨hk, hj⟩, List.getElem?_append_right (by simp; omega)]
      congr 1
      simp
      omega
    · rw [if_neg (by omega), List.getElem?_append_left (by simp; omega), List.getElem?_take, if_pos (by omega)]
  · rw [if_neg hj, List.getElem?_eq_none (by simp; omega)]
section
variable {P : Program} {E : Operand → AV} {H : HS} {R : AV → HS → Prop} {dst : Option Tmp} {ty : TypeId} {pos : String} {after : Array Edge} {gd : Option (Nat × Bool)}
end
inductive AddsX (P : Program) (tx : TypeId) (H : HS) : AV → Nat → List DV → Prop
  | adds {v : AV} {sz : Nat} {ys : List DV} (h : Adds P tx v sz ys) : AddsX P tx H v sz ys
  | arr {id n cap sz : Nat} {ys : List DV} {e' : TypeId} {b : HB} (ht : P.underlying tx = some (.slice e')) (hb : H.blks[id]? = some b) (hn : ys.length = n) (hv : b.cs.take (n * sz) = (flat ys).map .d) (hl : n * sz ≤ b.cs.length) (hy : ∀ y ∈ ys, y.cells.length = sz) (h1 : ∀ d ∈ flat ys, d.one = true) : AddsX P tx H (.arr id n cap) sz ys
theorem AddsX.src {P : Program} {B : Nat} {w0 w : World} {c : Ctx} {H : HS} (hI : Inv B w0 c H w) {tx : TypeId} {v : AV} {sz : Nat} {ys : List DV} (h : AddsX P tx H v sz ys) {x : Value} (hr : Rep c x v) :
    ∃ news : List Value, Src P tx x w sz ys.length news ∧ news.length = ys.length * sz ∧ news.length = (flat ys).length ∧ (∀ y ∈ ys, y.cells.length = sz) ∧ (∀ y ∈ flat ys, y.one = true) ∧ (∀ u ∈ news, u.oneCell' = true) ∧
      ∀ i (hi : i < news.length) (hi' : i < (flat ys).length), RepD c.mem news[i] (flat ys)[i] := by
  cases h with
  | adds h => exact h.src hI hr
  | @arr id n cap _ _ e' b ht hb hn hv hl hy h1 =>
    subst hn
    generalize ha : AV.arr id ys.length cap = v at hr
    cases hr with
    | arr _ _ _ g hg =>
      cases ha
      obtain ⟨p1, p2, cur, fr, p3, p4, p5, p6⟩ := hI.blk id g b hg hb
      have p4' : cur.size = b.cs.length := p4
      have hfl := flat_length hy
      have hul : (cur.toList.take (ys.length * sz)).length = ys.length * sz := by
        have hcl : cur.toList.length = cur.size := Array.length_toList
        rw [List.length_take]; omega
      have hrep : ∀ i (hi : i < (cur.toList.take (ys.length * sz)).length) (hi' : i < (flat ys).length), Rep c (cur.toList.take (ys.length * sz))[i] (.d (flat ys)[i]) := by
        intro i hi hi'
        have h3 : i < b.cs.length := by omega
        have h4 := p6 i h3
        have h5 : (.d (flat ys)[i] : AV) = b.cs[i]'h3 := by
          have : ((flat ys).map AV.d)[i]? = (b.cs.take (ys.length * sz))[i]? := by rw [hv]
          rw [List.getElem?_map, List.getElem?_eq_getElem hi', List.getElem?_take, if_pos (by omega), List.getElem?_eq_getElem h3] at this
          exact Option.some.inj this
        have h6 : (cur.toList.take (ys.length * sz))[i] = cur.getD i undef := by
          have : i < cur.size := by omega
          simp [this]
        rw [h5, h6]; exact h4
      refine ⟨cur.toList.take (ys.length * sz), ⟨.inr ⟨e', ht⟩, fun w' => by simp [Builtin.lenOf], fun w' hw' => ?_⟩, hul, by rw [hul, hfl], hy, h1, fun u hu => ?_, fun i hi hi' => ?_⟩
      · refine firstCells_of hul (fun j u hu => ?_) w' hw'
        rw [List.getElem?_take] at hu
        split at hu
        · simp only [World.cell?, p3]
          simpa using hu
        · cases hu
      · obtain ⟨j, hj, rfl⟩ := List.getElem_of_mem hu
        have hj' : j < (flat ys).length := by omega
        exact (hrep j hj hj').one (by
          have := h1 _ (List.getElem_mem hj')
          exact this)
      · exact (hrep i hi hi').d_inv
    | _ => cases ha
section
variable {P : Program} {E : Operand → AV} {H : HS} {R : AV → HS → Prop} {dst : Option Tmp} {ty : TypeId} {pos : String} {after : Array Edge} {gd : Option (Nat × Bool)}
theorem op_append_arrX {x y : Operand} {t' tx e : TypeId} {z : Value} {sz bytes n : Nat} {us : List AV} {ys : List DV} (ht : P.underlying t' = some (.slice e)) (hi : tInfo P e z sz bytes) (hzs : z.cells.size = sz) (hx : Arr H e sz (E x) n us) (hy : AddsX P tx H (E y) sz ys)
    (hne : 0 < ys.length) (hb : (n + ys.length) * bytes ≤ 140737488355328) (hn : n + ys.length ≤ 140737488355328) :
    OpR P ⟨dst, .call ⟨.builtin .append, #[x, y], #[t', tx]⟩, ty, pos, after, gd⟩ E H (fun av H' => Arr H' e sz av (n + ys.length) (us ++ (flat ys).map .d) ∧ Kept H H' (E x) ∧ ∃ id m cap, av = .arr id m cap ∧ (E x = nilS → H.nb ≤ id) ∧ ∀ j n cap, E x = .arr j n cap → id = j ∨ H.nb ≤ id) :=
  opR_value fun B w0 c w a hI hops => by
    have q1 := hops x (by simp [Op.operands, Call.operands])
    have q2 := hops y (by simp [Op.operands, Call.operands])
    obtain ⟨news, hsrc, hnl, hnf, hys, hy1, hone, hyr⟩ := hy.src hI q2
    have hfy := flat_length hys
    have hrun : ∀ r, (Builtin.append_ #[t', tx] ty #[a.eval x, a.eval y]).run P w = r → (execOp a.eval ⟨dst, .call ⟨.builtin .append, #[x, y], #[t', tx]⟩, ty, pos, after, gd⟩).run P w = r.andThen fun v w => .ok (.value v) w := by
      intro r hr
      simp [execOp, resolve, invoke, builtin, hr]
    have grow : ∀ (base : Option Addr) (cap : Nat) (olds : List Value), a.eval x = .slice base n cap → cap < n + ys.length → olds.length = n * sz → us.length = n * sz →
        (∀ i (hi : i < olds.length) (hi' : i < us.length), Rep c olds[i] us[i]) → (∀ w', w'.heap = w.heap → (Builtin.firstCells sz n (.slice base n cap)).run P w' = .ok olds.toArray w') →
        ∃ v' w' c' av H', (execOp a.eval ⟨dst, .call ⟨.builtin .append, #[x, y], #[t', tx]⟩, ty, pos, after, gd⟩).run P w = .ok (.value v') w' ∧ Le c c' ∧ Rep c' v' av ∧ Inv B w0 c' H' w' ∧
          (Arr H' e sz av (n + ys.length) (us ++ (flat ys).map .d) ∧ Kept H H' (E x) ∧ ∃ id m cap, av = .arr id m cap ∧ (E x = nilS → H.nb ≤ id) ∧ ∀ j n cap, E x = .arr j n cap → id = j ∨ H.nb ≤ id) := by
      intro base cap olds hev hcap hol hul hxr hold
      have hr := run_app_grow w t' tx ty e z sz bytes ht hi (a.eval y) ys.length news hsrc base n cap olds hold hcap hb hn
      rw [← hev] at hr
      have hge := grownCap_ge w (n + ys.length) cap e
      generalize grownCap w (n + ys.length) cap e = ncap at hr hge
      have hsize : (olds.toArray ++ (news.toArray ++ Builtin.zeroCells z.cells (ncap - (n + ys.length)))).size = (us ++ (flat ys).map AV.d ++ List.replicate ((ncap - (n + ys.length)) * sz) AV.un).length := by
        simp only [Array.size_append, List.size_toArray, size_zeroCells, hzs, hol, hnl, List.length_append, List.length_map, List.length_replicate, hul, hfy]
        omega
      have hlen : (us ++ (flat ys).map AV.d ++ List.replicate ((ncap - (n + ys.length)) * sz) AV.un).length = ncap * sz := by
        simp only [List.length_append, List.length_map, List.length_replicate, hul, hfy, ← Nat.add_mul]
        congr 1
        omega
      obtain ⟨i1, l1⟩ := hI.drew.allocBlk (olds.toArray ++ (news.toArray ++ Builtin.zeroCells z.cells (ncap - (n + ys.length)))) e (us ++ (flat ys).map AV.d ++ List.replicate ((ncap - (n + ys.length)) * sz) AV.un) hsize (fun j hj => by
        have e1 : (olds.toArray ++ (news.toArray ++ Builtin.zeroCells z.cells (ncap - (n + ys.length)))).getD j undef = (((olds ++ news) ++ (Builtin.zeroCells z.cells (ncap - (n + ys.length))).toList)[j]?).getD undef := by
          rw [Array.getD_eq_getD_getElem?, ← Array.getElem?_toList]
          simp
        rw [e1]
        by_cases h1 : j < (us ++ (flat ys).map AV.d).length
        · rw [List.getElem_append_left h1]
          have h1' : j < (olds ++ news).length := by
            simp only [List.length_append, List.length_map, hol, hnl, hul, hfy] at h1 ⊢
            exact h1
          rw [List.getElem?_append_left h1', List.getElem?_eq_getElem h1']
          show Rep c (olds ++ news)[j] _
          by_cases h2 : j < us.length
          · rw [List.getElem_append_left h2, List.getElem_append_left (by omega)]
            exact hxr j (by omega) h2
          · rw [List.getElem_append_right (by omega), List.getElem_append_right (by omega)]
            have h3 : j - olds.length < (flat ys).length := by simp at h1; omega
            have h4 : (List.map AV.d (flat ys))[j - us.length]'(by simp; omega) = .d ((flat ys)[j - olds.length]'h3) := by
              simp only [List.getElem_map]
              congr 2
              omega
            rw [h4]
            exact .d (hyr (j - olds.length) (by omega) h3)
        · rw [List.getElem_append_right (by omega)]
          simp only [List.getElem_replicate]
          exact .un _)
      refine ⟨_, _, _, _, _, hrun _ hr, l1, .arr c.blk.length (n + ys.length) ncap w.heap.size (by simp), i1, ?_, ⟨rfl, by simp [HS.push, HS.nb], fun j hj _ => ?_, rfl⟩, c.blk.length, _, _, rfl, fun _ => by rw [hI.blkLen]; exact Nat.le_refl _, fun _ _ _ _ => .inr (by rw [hI.blkLen]; exact Nat.le_refl _)⟩
      · refine .arr _ _ _ (us ++ (flat ys).map AV.d ++ List.replicate ((ncap - (n + ys.length)) * sz) AV.un) _ ?_ hlen hge ?_
        · rw [hI.blkLen]; simp [HS.push]
        · have : (n + ys.length) * sz = (us ++ (flat ys).map AV.d).length := by simp [hul, hfy, Nat.add_mul]
          rw [this, List.take_left' rfl]
      · simp only [HS.push]
        rw [List.getElem?_append_left hj]
    cases hE : E x with
    | d dv =>
      rw [hE] at hx q1
      cases hx with
      | nil =>
        have hev := q1.v_eq
        rw [hE] at grow
        exact grow none 0 [] hev (by omega) (by simp) (by simp) (by simp) (fun w' _ => by simp [Builtin.firstCells])
    | arr id n1 cap =>
      rw [hE] at hx q1
      rw [hE] at grow
      generalize hev : a.eval x = X at q1
      cases q1 with
      | arr _ _ _ g hg =>
      cases hx with
      | arr _ _ _ cs _ hbk hc hnc hu =>
      obtain ⟨p1, p2, cur, fr, p3, p4, p5, p6⟩ := hI.blk id g _ hg hbk
      have hcz : n * sz ≤ cap * sz := Nat.mul_le_mul_right _ hnc
      have hul : us.length = n * sz := by rw [← hu]; simp; omega
      have p4' : cur.size = cs.length := p4
      by_cases hroom : n + ys.length ≤ cap
      · have hfit : n * sz + news.length ≤ cur.size := by
          rw [hnl, p4', hc, ← Nat.add_mul]
          exact Nat.mul_le_mul_right _ hroom
        have hr := run_app_room w t' tx ty e z sz bytes ht hi (a.eval y) ys.length news hsrc g n cap cur fr p3 (fun o _ => p5 rfl o) hone hroom hfit
        rw [← hev] at hr
        have hal : news.length = ((flat ys).map AV.d).length := by simp [hnf]
        have i1 := hI.putBlk id g (n * sz) _ hg hbk news ((flat ys).map AV.d) hal (fun j hj hj' => by
          simp only [List.getElem_map]
          exact .d (hyr j hj (by simpa using hj'))) (by show n * sz + ((flat ys).map AV.d).length ≤ cs.length; omega) cur _ fr p3
        have hnb : (H.put id (n * sz) ((flat ys).map AV.d)).nb = H.nb := by simp [HS.put, HS.nb]
        refine ⟨_, _, c, _, _, hrun _ hr, Le.refl c, .arr id (n + ys.length) cap g hg, i1, ?_, ⟨rfl, by rw [hnb]; exact Nat.le_refl _, fun j hj hne => ?_, rfl⟩, id, n + ys.length, cap, rfl, (fun h => by cases h), (fun j _ _ h => Or.inl (by cases h; rfl))⟩
        · refine .arr _ _ _ (putL cs (n * sz) ((flat ys).map AV.d)) _ (by simp [HS.put, hbk]) (by rw [putL_length]; exact hc) hroom ?_
          have e1 : (n + ys.length) * sz = n * sz + ((flat ys).map AV.d).length := by simp [hfy, Nat.add_mul]
          rw [e1, putL_take _ _ _ (by omega), hu]
        · have hji : id ≠ j := fun h => hne n cap (by rw [h])
          simp [HS.put, hji]
      · have hol : (cur.toList.take (n * sz)).length = n * sz := by simp; omega
        refine grow _ cap (cur.toList.take (n * sz)) hev (by omega) hol hul ?_ ?_
        · intro i hi1 hi2
          have hi3 : i < cs.length := by omega
          have h1 := p6 i hi3
          have h2 : us[i] = cs[i]'hi3 := by simp [← hu]
          have h4 : i < cur.size := by omega
          have h3 : (cur.toList.take (n * sz))[i] = cur.getD i undef := by simp [h4]
          rw [h2, h3]
          exact h1
        · refine firstCells_of hol fun j u hu' => ?_
          rw [List.getElem?_take] at hu'
          split at hu'
          · simp only [World.cell?, p3]
            simpa using hu'
          · cases hu'
    | own => rw [hE] at hx; cases hx
    | un => rw [hE] at hx; cases hx
    | nv => rw [hE] at hx; cases hx
    | elt => rw [hE] at hx; cases hx
    | ptr => rw [hE] at hx; cases hx
    | sub => rw [hE] at hx; cases hx
    | agg => rw [hE] at hx; cases hx
    | tup => rw [hE] at hx; cases hx
    | fn => rw [hE] at hx; cases hx
    | map => rw [hE] at hx; cases hx
    | iter => rw [hE] at hx; cases hx
theorem op_append_arr {x y : Operand} {t' tx e : TypeId} {z : Value} {sz bytes n : Nat} {us : List AV} {ys : List DV} (ht : P.underlying t' = some (.slice e)) (hi : tInfo P e z sz bytes) (hzs : z.cells.size = sz) (hx : Arr H e sz (E x) n us) (hy : Adds P tx (E y) sz ys)
    (hne : 0 < ys.length) (hb : (n + ys.length) * bytes ≤ 140737488355328) (hn : n + ys.length ≤ 140737488355328) :
    OpR P ⟨dst, .call ⟨.builtin .append, #[x, y], #[t', tx]⟩, ty, pos, after, gd⟩ E H (fun av H' => Arr H' e sz av (n + ys.length) (us ++ (flat ys).map .d) ∧ Kept H H' (E x) ∧ ∃ id m cap, av = .arr id m cap ∧ (E x = nilS → H.nb ≤ id) ∧ ∀ j n cap, E x = .arr j n cap → id = j ∨ H.nb ≤ id) :=
  op_append_arrX ht hi hzs hx (.adds hy) hne hb hn
theorem op_sliceData_arr {x : Operand} {ts : Array TypeId} {id n cap : Nat} (hx : E x = .arr id n cap) (hc : cap ≠ 0) : OpR P ⟨dst, .call ⟨.builtin .unsafeSliceData, #[x], ts⟩, ty, pos, after, gd⟩ E H (Ret (.ptr id 0) H) :=
  opR_pure fun c w a hm hops => by
    have h1 := hops x (by simp [Op.operands, Call.operands])
    rw [hx] at h1
    generalize hev : a.eval x = X at h1
    cases h1 with
    | arr _ _ _ g hg =>
    refine ⟨_, ?_, .ptr id 0 g hg⟩
    simp [execOp, resolve, invoke, builtin, hev, Lib.run_unsafeSliceData_row w ts ty ⟨g, 0, none⟩ n cap hc]
theorem op_sliceData_nil {x : Operand} {ts : Array TypeId} (hx : E x = nilS) : OpR P ⟨dst, .call ⟨.builtin .unsafeSliceData, #[x], ts⟩, ty, pos, after, gd⟩ E H (Ret (.d (.v (.pointer none))) H) :=
  opR_pure fun c w a hm hops => by
    have h1 := hops x (by simp [Op.operands, Call.operands])
    rw [hx] at h1
    refine ⟨_, ?_, .d (.v _ rfl)⟩
    simp [execOp, resolve, invoke, builtin, h1.v_eq, Lib.run_unsafeSliceData_nil w ts ty 0 0]
def HS.frz (H : HS) (id : Nat) : HS := { H with blks := H.blks.modify id fun b => { b with frz := true } }
theorem Inv.freeze {B : Nat} {w0 w : World} {c : Ctx} {H : HS} (h : Inv B w0 c H w) (id g n : Nat) (b : HB) (hg : c.blk[id]? = some g) (hb : H.blks[id]? = some b) (hn : n ≠ 0) : Inv B w0 c (H.frz id) (w.freeze ⟨g, 0, none⟩ n) := by
  obtain ⟨p1, p2, cur, fr, p3, p4, p5, p6⟩ := h.blk id g b hg hb
  obtain ⟨lo, hi⟩ := fr
  have hfz : w.freeze ⟨g, 0, none⟩ n = { w with heap := w.heap.modify g fun | .cells c elem (lo, hi) => .cells c elem (if lo == hi then (0, 0 + n) else (min lo 0, max hi (0 + n))) | o => o } := by
    unfold World.freeze
    rw [if_neg hn]
    rfl
  have hother : ∀ k, k ≠ g → (w.freeze ⟨g, 0, none⟩ n).heap[k]? = w.heap[k]? := by
    intro k hk
    rw [hfz]
    simp only [Array.getElem?_modify]
    rw [if_neg (fun e => hk e.symm)]
  have hat : (w.freeze ⟨g, 0, none⟩ n).heap[g]? = some (.cells cur b.elem (if lo == hi then (0, 0 + n) else (min lo 0, max hi (0 + n)))) := by
    rw [hfz]
    show (w.heap.modify g _)[g]? = _
    rw [Array.getElem?_modify, if_pos rfl, p3]
    rfl
  have hsize : (w.freeze ⟨g, 0, none⟩ n).heap.size = w.heap.size := by rw [hfz]; simp
  have hcell : ∀ a u, w.cell? a = some u → (w.freeze ⟨g, 0, none⟩ n).cell? a = some u := by
    intro a u hu
    by_cases ha : a.block = g
    · have e1 := hat
      simp only [World.cell?, ha, p3] at hu
      simp only [World.cell?, ha, e1]
      exact hu
    · simp only [World.cell?] at hu ⊢
      rw [hother _ ha]
      exact hu
  refine ⟨by rw [hsize]; exact h.base, Lib.below_freeze h.below p1 n, fun g' o u hu => hcell _ _ (h.mem g' o u hu), by simp [HS.frz, h.blkLen], fun i g' b' hg' hb' => ?_, h.blkInj, h.tokLen, fun i e he => ?_, h.tokInj, h.maps.keep (.refl c) rfl rfl fun k o hk hn => by
    by_cases hkg : k = g
    · subst hkg; rw [p3] at hk; exact absurd (Option.some.inj hk).symm (hn _ _ _)
    · rw [hother _ hkg]; exact hk⟩
  · by_cases hi' : i = id
    · subst hi'
      have e1 : g' = g := by rw [hg] at hg'; exact (Option.some.inj hg').symm
      subst e1
      have e2 : b' = { b with frz := true } := by
        have : (H.frz i).blks[i]? = some { b with frz := true } := by simp [HS.frz, hb]
        rw [this] at hb'; exact (Option.some.inj hb').symm
      subst e2
      exact ⟨p1, p2, cur, _, hat, p4, fun hh => by simp at hh, p6⟩
    · have hb3 : H.blks[i]? = some b' := by
        have hne2 : ¬ id = i := fun e => hi' e.symm
        have : (H.frz id).blks[i]? = H.blks[i]? := by cases hq : H.blks[i]? <;> simp [HS.frz, hne2, hq]
        rw [← this]; exact hb'
      have hne : g' ≠ g := fun hh => hi' (h.blkInj i id g (hh ▸ hg') hg)
      obtain ⟨q1, q2, cur', fr', q3, q4⟩ := h.blk i g' b' hg' hb3
      exact ⟨q1, q2, cur', fr', by rw [hother _ hne]; exact q3, q4⟩
  · obtain ⟨q1, q2, q3, q4, q5, cur', et', fr', q6, q7⟩ := h.tok i e he
    have hne : e.g ≠ g := fun hh => q5 id (hh ▸ hg)
    exact ⟨q1, q2, q3, q4, q5, cur', et', fr', by rw [hother _ hne]; exact q6, q7⟩
theorem op_unsafeString {x y : Operand} {pt it e : TypeId} {id : Nat} {cs : List AV} {f : Bool} {l : List UInt8} (hp : P.underlying pt = some (.pointer e)) (hc : P.cellsOf e = 1) (hx : E x = .ptr id 0) (hy : E y = .d (I l.length)) (hb : H.blks[id]? = some ⟨e, cs, f⟩) (h0 : l ≠ []) (h63 : l.length ≤ 9223372036854775807)
    (hl : cs.take l.length = l.map fun c => .d (BY c)) : OpR P ⟨dst, .call ⟨.builtin .unsafeString, #[x, y], #[pt, it]⟩, ty, pos, after, gd⟩ E H (Ret (.d (S l)) (H.frz id)) :=
  opR_value fun B w0 c w a hI hops => by
    have h1 := hops x (by simp [Op.operands, Call.operands])
    have h2 := hops y (by simp [Op.operands, Call.operands])
    rw [hx] at h1
    rw [hy] at h2
    obtain ⟨g, ev, hg⟩ := h1.ptr_inv
    obtain ⟨p1, p2, cur, fr, p3, p4, p5, p6⟩ := hI.blk id g _ hg hb
    have hlen : l.length ≤ cs.length := by
      have := congrArg List.length hl
      simp at this
      omega
    have hr := Lib.run_unsafeString_row (P := P) w pt it ty e hp hc g cur.size (by simp [World.shape?, p3]) l h0 (by rw [p4]; exact hlen) h63 (fun j x hj => by
      rw [addr_add, Nat.zero_add]
      have hj1 : j < l.length := (List.getElem?_eq_some_iff.1 hj).1
      have hj2 : j < cs.length := by omega
      have e1 : cs[j]? = some (.d (BY x)) := by
        have := congrArg (fun q => q[j]?) hl
        simp only [List.getElem?_take, if_pos hj1, List.getElem?_map, hj] at this
        exact this
      have e2 : cs[j]'hj2 = .d (BY x) := by rw [List.getElem?_eq_getElem hj2] at e1; exact Option.some.inj e1
      have h3 := p6 j hj2
      have h3' : Rep c (cur.getD j undef) (.d (BY x)) := e2 ▸ h3
      have h4 := h3'.v_eq
      have hj3 : j < cur.size := by have : cur.size = cs.length := p4; omega
      simp only [World.cell?, p3]
      simp [hj3] at h4 ⊢
      exact h4)
    refine ⟨_, _, c, _, _, ?_, Le.refl c, .d (.v _ rfl), hI.freeze id g l.length _ hg hb (by simpa using h0), rfl, rfl⟩
    have h5 : a.eval y = .int .i64 l.length := h2.v_eq
    simp [execOp, resolve, invoke, builtin, ev, h5, hr]
theorem op_unsafeString0 {x y : Operand} {pt it : TypeId} (hx : E x = .d (.v (.pointer none))) (hy : E y = .d (I 0)) : OpR P ⟨dst, .call ⟨.builtin .unsafeString, #[x, y], #[pt, it]⟩, ty, pos, after, gd⟩ E H (Ret (.d (S [])) H) :=
  opR_pure fun c w a hm hops => by
    have h1 := hops x (by simp [Op.operands, Call.operands])
    have h2 := hops y (by simp [Op.operands, Call.operands])
    rw [hx] at h1
    rw [hy] at h2
    have h4 : a.eval x = .pointer none := h1.v_eq
    have h5 : a.eval y = .int .i64 0 := h2.v_eq
    refine ⟨_, ?_, .d (.v _ rfl)⟩
    simp [execOp, resolve, invoke, builtin, h4, h5, Lib.run_unsafeString_none w pt it ty none]
    rfl
theorem op_lenArr {x : Operand} {t e : TypeId} {id n cap : Nat} (ht : P.underlying t = some (.slice e)) (hx : E x = .arr id n cap) : OpR P ⟨dst, .call ⟨.builtin .len, #[x], #[t]⟩, ty, pos, after, gd⟩ E H (Ret (.d (I n)) H) :=
  opR_pure fun c w a hm hops => by
    have h1 := hops x (by simp [Op.operands, Call.operands])
    rw [hx] at h1
    generalize hev : a.eval x = X at h1
    cases h1 with
    | arr _ _ _ g hg =>
    refine ⟨_, ?_, .d (.v _ rfl)⟩
    simp [execOp, resolve, invoke, builtin, hev, Builtin.len_, run_underlying ht, goInt]
end
end Go.AV
namespace Go.AV
open Go.RowKit
theorem ACalls.tidyT {P : Program} {f : FuncId} {args : List AV} {H : HS} {xs : List DV} (h : ACalls P f args H fun av H' => av = .tup (xs.map .d) ∧ Ext H H') : ACalls P f args H (Ret (.tup (xs.map .d)) H) :=
  ACalls.tidy (R := fun av => av = .tup (xs.map .d)) (h.mono fun v H' ⟨h1, h2⟩ => ⟨by rw [h1]; exact .tup _ fun i hi => by simp only [List.getElem_map]; exact .d _, h2, h1⟩)
def dataV : AV → AV
  | .arr id _ _ => .ptr id 0
  | _ => .d (.v (.pointer none))
def frzV (H : HS) : AV → HS
  | .arr id _ _ => H.frz id
  | _ => H
inductive BV (H : HS) (e : TypeId) : AV → List UInt8 → Prop
  | nil : BV H e nilS []
  | arr (id cap : Nat) (cs : List AV) (l : List UInt8) (hb : H.blks[id]? = some ⟨e, cs, false⟩) (hc : cs.length = cap) (hl : cs.take l.length = l.map fun c => .d (BY c)) (h0 : l ≠ []) (hn : l.length ≤ cap) : BV H e (.arr id l.length cap) l
theorem BV.kept {H H' : HS} {e : TypeId} {v : AV} {l : List UInt8} (h : BV H e v l) (hk : ∀ id n cap, v = .arr id n cap → H'.blks[id]? = H.blks[id]?) : BV H' e v l := by
  cases h with
  | nil => exact .nil
  | arr id cap cs l hb hc hl h0 hn => exact .arr id cap cs l (by rw [hk _ _ _ rfl]; exact hb) hc hl h0 hn
theorem BV.arrs {H : HS} {e : TypeId} {v : AV} {l : List UInt8} (h : BV H e v l) : Arr H e 1 v l.length (l.map fun c => .d (BY c)) := by
  cases h with
  | nil => exact .nil
  | arr id cap cs l hb hc hl h0 hn => exact .arr id _ cap cs _ hb (by rw [hc, Nat.mul_one]) hn (by rw [Nat.mul_one]; exact hl)
theorem Arr.bv {H : HS} {e : TypeId} {v : AV} {n : Nat} {us : List AV} {l : List UInt8} (h : Arr H e 1 v n us) (hn : n = l.length) (hu : us = l.map fun c => .d (BY c)) (h0 : l ≠ []) : BV H e v l := by
  cases h with
  | nil => exact absurd (List.length_eq_zero_iff.1 hn.symm) h0
  | arr id _ cap cs _ hb hc hn' hu' =>
    subst hn
    exact .arr id cap cs l hb (by rw [hc, Nat.mul_one]) (by rw [Nat.mul_one] at hu'; rw [hu', hu]) h0 hn'
structure Bld (Hs : HS) (eB eU : TypeId) (H : HS) (l : List UInt8) : Prop where
  ext : Ext Hs H
  it : ∃ p v, H.blks[Hs.nb]? = some ⟨eB, [p, v], false⟩ ∧ BV H eU v l ∧ (p = .d (.v (.pointer none)) ∨ p = .ptr Hs.nb 0) ∧ ∀ id n cap, v = .arr id n cap → Hs.nb < id
theorem Bld.new (Hs : HS) (eB eU : TypeId) : Bld Hs eB eU (Hs.push eB [.d (.v (.pointer none)), nilS]) [] :=
  ⟨(Ext.refl Hs).push _ _, _, _, by simp [HS.push, HS.nb], .nil, .inl rfl, fun _ _ _ h => by cases h⟩
theorem Ext.of {Hs H H' : HS} (h : Ext Hs H) (ht : H'.toks = H.toks) (hb : ∀ j, j < Hs.nb → H'.blks[j]? = H.blks[j]?) (hm' : H'.maps = H.maps := by first | rfl | exact HS.up_maps _ _ _) : Ext Hs H' := by
  obtain ⟨l, hl⟩ := h.blks
  obtain ⟨m, hm⟩ := h.toks
  refine ⟨⟨H'.blks.drop Hs.nb, ?_⟩, ⟨m, by rw [ht, hm]⟩, hm'.trans h.maps⟩
  have : H'.blks.take Hs.nb = Hs.blks := by
    apply List.ext_getElem?
    intro j
    rw [List.getElem?_take]
    by_cases hj : j < Hs.nb
    · rw [if_pos hj, hb j hj, hl, List.getElem?_append_left hj]
    · rw [if_neg hj, List.getElem?_eq_none (by simpa [HS.nb] using hj)]
  conv => lhs; rw [← List.take_append_drop Hs.nb H'.blks, this]
theorem put_blks_ne {H : HS} {id off j : Nat} {vs : List AV} (h : j ≠ id) : (H.put id off vs).blks[j]? = H.blks[j]? := by
  have hne : ¬ id = j := fun e => h e.symm
  cases hq : H.blks[j]? <;> simp [HS.put, hne, hq]
theorem put_blks_at {H : HS} {id off : Nat} {vs : List AV} {b : HB} (h : H.blks[id]? = some b) : (H.put id off vs).blks[id]? = some { b with cs := putL b.cs off vs } := by simp [HS.put, h]
theorem put_nb {H : HS} {id off : Nat} {vs : List AV} : (H.put id off vs).nb = H.nb := by simp [HS.put, HS.nb]
theorem Bld.step {Hs H H2 : HS} {eB eU : TypeId} {p v v' : AV} {l : List UInt8} {c : UInt8} (hx : Ext Hs H) (hb : H.blks[Hs.nb]? = some ⟨eB, [p, v], false⟩) (hlt : ∀ id n cap, v = .arr id n cap → Hs.nb < id)
    (hK : Kept (H.put Hs.nb 0 [.ptr Hs.nb 0]) H2 v) (hA : Arr H2 eU 1 v' (l.length + 1) (l.map (fun c => AV.d (BY c)) ++ [.d (BY c)])) (hv : ∃ id m cap, v' = .arr id m cap ∧ Hs.nb < id) :
    Bld Hs eB eU (H2.put Hs.nb 1 [v']) (l ++ [c]) := by
  have hnb : Hs.nb < H.nb := (List.getElem?_eq_some_iff.1 hb).1
  have h1 : H2.blks[Hs.nb]? = some ⟨eB, [.ptr Hs.nb 0, v], false⟩ := by
    rw [hK.blks Hs.nb (by rw [put_nb]; exact hnb) (fun n cap e => by have := hlt _ _ _ e; omega), put_blks_at hb]
    rfl
  refine ⟨hx.of ?_ (fun j hj => ?_) hK.maps, .ptr Hs.nb 0, v', ?_, ?_, .inr rfl, ?_⟩
  · show H2.toks = H.toks
    rw [hK.toks]
    rfl
  · rw [put_blks_ne (by omega), hK.blks j (by rw [put_nb]; omega) (fun n cap e => by have := hlt _ _ _ e; omega), put_blks_ne (by omega)]
  · rw [put_blks_at h1]
    rfl
  · have h2 := hA.bv (l := l ++ [c]) (by simp) (by simp) (by simp)
    obtain ⟨id', m, cap', e, h3⟩ := hv
    subst e
    generalize l ++ [c] = l2 at h2
    cases h2 with
    | arr id cap cs l' hb' hc hl h0 hn => exact .arr _ cap' cs _ (by rw [put_blks_ne (by omega)]; exact hb') hc hl h0 hn
  · obtain ⟨id', m, cap', e, h3⟩ := hv
    intro id n cap e'
    rw [e] at e'
    cases e'
    exact h3
theorem frzV_ext {Hs H : HS} {v : AV} (hx : Ext Hs H) (hlt : ∀ id n cap, v = .arr id n cap → Hs.nb < id) : Ext Hs (frzV H v) := by
  cases v with
  | arr id n cap =>
    have := hlt _ _ _ rfl
    refine hx.of rfl fun j hj => ?_
    have hne : ¬ id = j := by omega
    cases hq : H.blks[j]? <;> simp [frzV, HS.frz, hne, hq]
  | _ => exact hx
section
variable {P : Program} {E : Operand → AV} {H H0 : HS} {R : AV → HS → Prop} {dst : Option Tmp} {ty : TypeId} {pos : String} {after : Array Edge} {gd : Option (Nat × Bool)}
theorem op_sliceData_bv {x : Operand} {ts : Array TypeId} {e : TypeId} {v : AV} {l : List UInt8} (hx : E x = v) (hv : BV H0 e v l) : OpR P ⟨dst, .call ⟨.builtin .unsafeSliceData, #[x], ts⟩, ty, pos, after, gd⟩ E H (Ret (dataV v) H) := by
  cases hv with
  | nil => exact op_sliceData_nil hx
  | arr id cap cs l hb hc hl h0 hn => exact op_sliceData_arr hx (by have := List.length_pos_iff.2 h0; omega)
theorem op_len_bv {x : Operand} {t e' e : TypeId} {v : AV} {l : List UInt8} (ht : P.underlying t = some (.slice e')) (hx : E x = v) (hv : BV H0 e v l) : OpR P ⟨dst, .call ⟨.builtin .len, #[x], #[t]⟩, ty, pos, after, gd⟩ E H (Ret (.d (I l.length)) H) := by
  cases hv with
  | nil => exact op_lenL (sz := 1) (xs := []) ht (by rw [hx]; exact .nil _)
  | arr id cap cs l hb hc hl h0 hn => exact op_lenArr ht hx
theorem op_unsafeString_bv {x y : Operand} {pt it e : TypeId} {v : AV} {l : List UInt8} (hp : P.underlying pt = some (.pointer e)) (hc : P.cellsOf e = 1) (hx : E x = dataV v) (hy : E y = .d (I l.length)) (hv : BV H e v l) (h63 : l.length ≤ 9223372036854775807) :
    OpR P ⟨dst, .call ⟨.builtin .unsafeString, #[x, y], #[pt, it]⟩, ty, pos, after, gd⟩ E H (Ret (.d (S l)) (frzV H v)) := by
  cases hv with
  | nil => exact op_unsafeString0 hx hy
  | arr id cap cs l hb hc' hl h0 hn => exact op_unsafeString hp hc hx hy hb h0 h63 hl
end
end Go.AV
namespace Go.AV
open Go.RowKit
structure Grows (H : HS) (t : Option Nat) (v : AV) (H' : HS) (sz : Nat) (xs : List DV) : Prop where
  ex : ∃ t', App v t' sz xs ∧ Heir H t H' t' ∧ H'.ok t' xs.length
theorem Grows.own {H : HS} {t : Option Nat} {v : AV} {sz : Nat} {xs : List DV} (h : App v t sz xs) (hok : H.ok t xs.length) : Grows H t v H sz xs := ⟨⟨t, h, Heir.refl _ _, hok⟩⟩
theorem Grows.grown {H H' : HS} {t t' : Option Nat} {sz m n : Nat} {xs ys : List DV} (hh : Heir H t H' t') (hok : H'.ok t' m) (hx : xs = ys) (hn : n = ys.length) : Grows H t (.own (some (H'.tk t')) sz xs) (H'.up t' n) sz ys := by
  subst hx
  exact ⟨⟨_, .own _ _ _, hh.step n, by rw [hn]; exact HS.ok_up H' t' _ hok⟩⟩
def Weak (v v' : AV) : Prop := ∀ (c : Ctx) (x : Value), Rep c x v → Rep c x v'
theorem Weak.refl (v : AV) : Weak v v := fun _ _ h => h
theorem Weak.lst {v : AV} {t : Option Nat} {sz : Nat} {xs : List DV} (h : App v t sz xs) : Weak v (.d (.lst sz xs)) := by
  intro c x hx
  obtain ⟨a, n, cap, rfl, hd⟩ := h.ll.rep hx
  exact .d hd
theorem Weak.nil (sz : Nat) : Weak nilS (.d (.lst sz [])) := Weak.lst (.nil sz)
inductive Weaks : List AV → List AV → Prop
  | nil : Weaks [] []
  | cons {x y : AV} {l m : List AV} (h : Weak x y) (r : Weaks l m) : Weaks (x :: l) (y :: m)
theorem Weaks.len {l m : List AV} (h : Weaks l m) : l.length = m.length := by
  induction h with
  | nil => rfl
  | cons _ _ ih => simp [ih]
theorem Weaks.get {l m : List AV} (h : Weaks l m) : ∀ (c : Ctx) (vs : Nat → Value), (∀ i (hi : i < l.length), Rep c (vs i) l[i]) → ∀ i (hi : i < m.length), Rep c (vs i) m[i] := by
  induction h with
  | nil => intro c vs _ i hi; simp at hi
  | cons hx _ ih =>
    intro c vs hv i hi
    cases i with
    | zero => exact hx c _ (hv 0 (by simp))
    | succ i => exact ih c (fun j => vs (j + 1)) (fun j hj => by have := hv (j + 1) (by simpa using hj); simpa using this) i (by simpa using hi)
theorem Weak.tup {l m : List AV} (h : Weaks l m) : Weak (.tup l) (.tup m) := by
  intro c x hx
  cases hx with
  | tup vs _ hl hr => exact .tup vs _ (by rw [hl, h.len]) (h.get c (fun i => vs.getD i undef) hr)
theorem Weak.agg {l m : List AV} (h : Weaks l m) : Weak (.agg l) (.agg m) := by
  intro c x hx
  cases hx with
  | agg vs _ hl hr => exact .agg vs _ (by rw [hl, h.len]) (h.get c (fun i => vs.getD i undef) hr)
theorem Weak.aggD {l : List AV} {ds : List DV} (h : Weaks l (ds.map .d)) (h1 : ∀ d ∈ ds, d.one = true) : Weak (.agg l) (.d (.agg ds)) := fun c x hx => rep_agg_d h1 (Weak.agg h c x hx)
theorem ACalls.weak {P : Program} {f : FuncId} {args : List AV} {H : HS} {R R' : AV → HS → Prop} (h : ACalls P f args H R) (hr : ∀ v H', R v H' → ∃ v', Weak v v' ∧ R' v' H') : ACalls P f args H R' :=
  fun B w0 c w vs hI hs ha => (h B w0 c w vs hI hs ha).mono fun _ _ ⟨v, av, H', c', h1, h2, h3, h4, h5⟩ => by
    obtain ⟨v', h6, h7⟩ := hr _ _ h5
    exact ⟨v, v', H', c', h1, h2, h6 _ _ h3, h4, h7⟩
def CutP (R : List AV → HS → Prop) (Q : Post) : Post := fun e T H => match e with
  | .normal => ∃ T', TLe T T' ∧ R T' H
  | e => Q e T H
section
variable {P : Program} {Q : Post} {T T' : List AV} {H : HS} {R : List AV → HS → Prop}
theorem cut_to (m : List Bool) (hm : maskT m T = T') (hl : m.length = T.length) (h : R T' H) : CutP R Q .normal T H := ⟨T', hm ▸ maskT_le m T hl, h⟩
theorem aw_cutF {x y : Code} (R : List AV → HS → Prop) (h1 : AW P x (CutP R Q) T H) (h2 : ∀ T H, R T H → AW P y Q T H) : AW P (.seq x y) Q T H :=
  aw_cut R h1 h2
end
end Go.AV
namespace Go.AV
open Go.RowKit
def HS.setB (H : HS) (id : Nat) (b : HB) : HS := { H with blks := H.blks.set id b }
theorem put_setB {H : HS} {id off : Nat} {vs : List AV} {b : HB} (h : H.blks[id]? = some b) : H.put id off vs = H.setB id { b with cs := putL b.cs off vs } := by
  have : (H.put id off vs).blks = (H.setB id { b with cs := putL b.cs off vs }).blks := by
    apply List.ext_getElem?
    intro j
    have hlt := (List.getElem?_eq_some_iff.1 h).1
    by_cases hj : j = id
    · subst hj
      rw [put_blks_at h]
      simp [HS.setB, hlt]
    · rw [put_blks_ne hj]
      have hne : ¬ id = j := fun e => hj e.symm
      simp [HS.setB, hne]
  cases H
  simp only [HS.put, HS.setB] at this ⊢
  rw [this]
theorem setB_self {H : HS} {id : Nat} {b : HB} (h : H.blks[id]? = some b) : H.setB id b = H := by
  obtain ⟨hlt, rfl⟩ := List.getElem?_eq_some_iff.1 h
  cases H
  simp [HS.setB]
theorem setB_at {H : HS} {id : Nat} {b b' : HB} (h : H.blks[id]? = some b) : (H.setB id b').blks[id]? = some b' := by
  have hlt := (List.getElem?_eq_some_iff.1 h).1
  simp [HS.setB, hlt]
theorem setB_ne {H : HS} {id j : Nat} {b : HB} (h : j ≠ id) : (H.setB id b).blks[j]? = H.blks[j]? := by
  have hne : ¬ id = j := fun e => h e.symm
  simp [HS.setB, hne]
theorem setB_setB {H : HS} {id : Nat} {b b' : HB} : (H.setB id b).setB id b' = H.setB id b' := by simp [HS.setB]
theorem setB_nb {H : HS} {id : Nat} {b : HB} : (H.setB id b).nb = H.nb := by simp [HS.setB, HS.nb]
theorem push_nb {H : HS} {e : TypeId} {cs : List AV} : (H.push e cs).nb = H.nb + 1 := by simp [HS.push, HS.nb]
theorem push_at {H : HS} {e : TypeId} {cs : List AV} : (H.push e cs).blks[H.nb]? = some ⟨e, cs, false⟩ := by simp [HS.push, HS.nb]
theorem push_ne {H : HS} {e : TypeId} {cs : List AV} {j : Nat} {b : HB} (h : H.blks[j]? = some b) : (H.push e cs).blks[j]? = some b := by
  have hlt := (List.getElem?_eq_some_iff.1 h).1
  simp only [HS.push]
  rw [List.getElem?_append_left hlt]
  exact h
theorem Ext.setB {Hs H : HS} {id : Nat} {b : HB} (h : Ext Hs H) (hlt : Hs.nb ≤ id) : Ext Hs (H.setB id b) := h.of rfl fun j hj => setB_ne (by omega)
def NewTok (Hs : HS) (t : Option Nat) : Prop := ∀ i, t = some i → Hs.toks.length ≤ i
theorem Ext.upN {Hs H : HS} {t : Option Nat} {n m : Nat} (h : Ext Hs H) (hn : NewTok Hs t) (hok : H.ok t m) : Ext Hs (H.up t n) ∧ NewTok Hs (some (H.tk t)) := by
  obtain ⟨l, hl⟩ := h.toks
  cases t with
  | none => 
    refine ⟨⟨by rw [HS.up_blks]; exact h.blks, ⟨l ++ [n], by simp [HS.up, hl]⟩, h.maps⟩, fun i hi => ?_⟩
    cases hi
    simp [HS.tk, hl]
  | some k =>
    have hk := hn k rfl
    refine ⟨⟨by rw [HS.up_blks]; exact h.blks, ?_, h.maps⟩, fun i hi => ?_⟩
    · refine ⟨l.set (k - Hs.toks.length) n, ?_⟩
      simp only [HS.up, hl]
      rw [List.set_append_right _ _ hk]
    · cases hi
      exact hk
theorem NewTok.none (Hs : HS) : NewTok Hs none := fun _ h => by cases h
section
variable {P : Program} {E : Operand → AV} {H : HS} {R : AV → HS → Prop} {dst : Option Tmp} {ty : TypeId} {pos : String} {after : Array Edge} {gd : Option (Nat × Bool)}
theorem op_storeB {x y : Operand} {t : TypeId} {id off n : Nat} {b b' : HB} {H' : HS} {vs : List AV} (hn : (P.info? t).map (·.size) = some n) (hx : E x = .ptr id off) (hb : H.blks[id]? = some b) (hu : E y ≠ .un) (hvs : (E y).cells = vs) (hl : vs.length = n) (hfit : off + n ≤ b.cs.length)
    (hone : ∀ v ∈ vs, v.one = true) (hfz : b.frz = false) (hb' : (⟨b.elem, putL b.cs off vs, b.frz⟩ : HB) = b') (hH : H.setB id b' = H') : OpR P ⟨dst, .store t x y, ty, pos, after, gd⟩ E H (Ret .un H') := by
  have h := op_store (dst := dst) (ty := ty) (pos := pos) (after := after) (gd := gd) hn hx hb hu hvs hl hfit hone hfz
  rw [put_setB hb] at h
  have e : ({ b with cs := putL b.cs off vs } : HB) = b' := hb'
  rwa [e, hH] at h
end
inductive Res1 (P : Program) (T : List AV) (H : HS) : ResultVar → AV → Prop
  | tmp {t : Tmp} {av : AV} (h : T[t]? = some av) : Res1 P T H (.tmp t) av
  | cell {a : Tmp} {ty : TypeId} {d : TypeDesc} {id off : Nat} {b : HB} {v : AV} (ht : P.underlying ty = some d) (hd : notAgg d = true) (hx : T[a]? = some (.ptr id off)) (hb : H.blks[id]? = some b) (hv : b.cs[off]? = some v) : Res1 P T H (.cell a ty) v
  | cells {a : Tmp} {ty : TypeId} {d : TypeDesc} {id off n : Nat} {b : HB} {vs : List AV} (ht : P.underlying ty = some d) (hd : notAgg d = false) (hn : (P.info? ty).map (·.size) = some n) (hx : T[a]? = some (.ptr id off)) (hb : H.blks[id]? = some b)
      (hl : off + n ≤ b.cs.length) (hvs : (b.cs.drop off).take n = vs) : Res1 P T H (.cell a ty) (.agg vs)
def resRun (tmps : Array Value) : ResultVar → Sem Value
  | .tmp t => pure (tmps.getD t undef)
  | .cell a t => do loadVar t (← asAddr (tmps.getD a undef))
theorem Res1.run {P : Program} {T : List AV} {H : HS} {B : Nat} {w0 w : World} {c : Ctx} {tmps : Array Value} (hI : Inv B w0 c H w) (hT : RepT c tmps T) {r : ResultVar} {av : AV} (h : Res1 P T H r av) : ∃ v, (resRun tmps r).run P w = .ok v w ∧ Rep c v av := by
  cases h with
  | tmp h => exact ⟨_, rfl, getD_of hT h⟩
  | @cell a ty d id off b _ ht hd hx hb hv =>
    obtain ⟨g, e, hg⟩ := (getD_of hT hx).ptr_inv
    obtain ⟨u, hc, hr⟩ := hI.cell hg hb hv
    exact ⟨u, by simp [resRun, e, asAddr, run_load_one ht hd w hc], hr⟩
  | @cells a ty d id off n b vs ht hd hn hx hb hl hvs =>
    obtain ⟨g, e, hg⟩ := (getD_of hT hx).ptr_inv
    subst hvs
    have hall : ∀ j, j < n → ∃ u, w.cell? ⟨g, off + j, none⟩ = some u ∧ ∃ v, b.cs[off + j]? = some v ∧ Rep c u v := fun j hj => by
      have hlt : off + j < b.cs.length := by omega
      obtain ⟨u, h2, h3⟩ := hI.cell hg hb (List.getElem?_eq_getElem hlt)
      exact ⟨u, h2, _, List.getElem?_eq_getElem hlt, h3⟩
    let f : Nat → Value := fun j => (w.cell? ⟨g, off + j, none⟩).getD undef
    refine ⟨.agg ((List.range n).map f).toArray, ?_, .agg _ _ (by simp; omega) (fun i hi => ?_)⟩
    · have := run_load_agg (P := P) ht hd hn (g := g) (o := off) ((List.range n).map f) (by simp) w (fun j u hu => by
        have hj : j < n := by have := (List.getElem?_eq_some_iff.1 hu).1; simpa using this
        have : u = f j := by simp [hj] at hu; exact hu.symm
        subst this
        obtain ⟨u, h2, _⟩ := hall j hj
        simp [f, h2])
      simp [resRun, e, asAddr, this]
    · have hi' : i < n := by simp at hi; omega
      obtain ⟨u, h2, v, h3, h4⟩ := hall i hi'
      have e1 : (((List.range n).map f).toArray).getD i undef = u := by simp [hi', f, h2]
      rw [e1]
      have e2 : ((b.cs.drop off).take n)[i] = v := by
        rw [List.getElem_take, List.getElem_drop]
        have := (List.getElem?_eq_some_iff.1 h3).2
        exact this
      rw [e2]
      exact h4
def RetPostC (P : Program) (rs : Array ResultVar) (R : AV → HS → Prop) : Post := fun e T H => (e = .ret ∨ e = .normal) ∧
  ∃ av, R av H ∧ ((∃ r, rs = #[r] ∧ Res1 P T H r av) ∨ (∃ r s x y, rs = #[r, s] ∧ Res1 P T H r x ∧ Res1 P T H s y ∧ av = .tup [x, y]) ∨ (∃ r s q x y z, rs = #[r, s, q] ∧ Res1 P T H r x ∧ Res1 P T H s y ∧ Res1 P T H q z ∧ av = .tup [x, y, z]))
section
variable {P : Program} {T : List AV} {H : HS} {rs : Array ResultVar} {R : AV → HS → Prop}
theorem retC2 {r s : ResultVar} {x y : AV} (hr : rs = #[r, s]) (h1 : Res1 P T H r x) (h2 : Res1 P T H s y) (h : R (.tup [x, y]) H) : RetPostC P rs R .ret T H := ⟨.inl rfl, _, h, .inr (.inl ⟨r, s, x, y, hr, h1, h2, rfl⟩)⟩
theorem results_eq {fn : Func} {tmps : Array Value} : results fn tmps = (do let vs ← fn.results.mapM (resRun tmps); pure (if h : vs.size = 1 then vs[0] else .tuple vs)) := by
  unfold results
  congr 1
theorem acalls_of_awC {f : FuncId} {fn : Func} {k : Code} {args : List AV} (hf : P.funcs[f]? = some fn) (hb : fn.body = some k)
    (h : AW P k (RetPostC P fn.results R) (args ++ List.replicate (fn.ntmps - args.length) .un) H) : ACalls P f args H R := by
  intro B w0 c w vs hI hs ha
  refine calls_of_wp hf hb ?_
  have hT : RepT c (vs ++ Array.replicate (fn.ntmps - vs.size) undef) (args ++ List.replicate (fn.ntmps - args.length) .un) := by
    refine ⟨by simp [hs], fun i hi => ?_⟩
    by_cases hlt : i < args.length
    · have e1 : (vs ++ Array.replicate (fn.ntmps - vs.size) undef).getD i undef = vs.getD i undef := by
        have : i < vs.size := by omega
        have h2 : i < vs.size + (fn.ntmps - vs.size) := by omega
        simp [this, h2, Array.getElem_append_left this]
      have e2 : (args ++ List.replicate (fn.ntmps - args.length) AV.un).getD i .un = args[i] := by
        simp [List.getD_eq_getElem?_getD, List.getElem?_append_left hlt, hlt]
      rw [e1, e2]
      exact ha i hlt
    · have e2 : (args ++ List.replicate (fn.ntmps - args.length) AV.un).getD i .un = .un := by
        rw [List.getD_eq_getElem?_getD, List.getElem?_append_right (by omega), List.getElem?_replicate]
        split <;> rfl
      rw [e2]
      exact .un _
  refine wp_mono (h B w0 c c w _ (Le.refl c) hI hT rfl) ?_
  rintro e a' w' ⟨c', T', H', x1, x2, x3, x4, he, av, hR, hres⟩
  have key : ∃ v, (results fn a'.tmps).run P w' = .ok v w' ∧ Rep c' v av := by
    rcases hres with ⟨r, hr, h1⟩ | ⟨r, s, x, y, hr, h1, h2, rfl⟩ | ⟨r, s, q, x, y, z, hr, h1, h2, h3, rfl⟩
    · obtain ⟨v, e1, r1⟩ := h1.run x2 x3
      exact ⟨v, by simp [results_eq, hr, e1], r1⟩
    · obtain ⟨v, e1, r1⟩ := h1.run x2 x3
      obtain ⟨u, e2, r2⟩ := h2.run x2 x3
      refine ⟨.tuple #[v, u], by simp [results_eq, hr, e1, e2], .tup _ _ rfl fun i hi => ?_⟩
      rcases i with _ | _ | i
      · exact r1
      · exact r2
      · simp at hi; omega
    · obtain ⟨v, e1, r1⟩ := h1.run x2 x3
      obtain ⟨u, e2, r2⟩ := h2.run x2 x3
      obtain ⟨t, e3, r3⟩ := h3.run x2 x3
      refine ⟨.tuple #[v, u, t], by simp [results_eq, hr, e1, e2, e3], .tup _ _ rfl fun i hi => ?_⟩
      rcases i with _ | _ | _ | i
      · exact r1
      · exact r2
      · exact r3
      · simp at hi; omega
  obtain ⟨v, hv, hrep⟩ := key
  rcases he with rfl | rfl
  · exact ⟨x4, v, hv, v, av, H', c', rfl, x1, hrep, x2, hR⟩
  · exact ⟨x4, v, hv, v, av, H', c', rfl, x1, hrep, x2, hR⟩
end
end Go.AV
namespace Go.AV
section
variable {P : Program} {E : Operand → AV} {H : HS} {R : AV → HS → Prop} {dst : Option Tmp} {ty : TypeId} {pos : String} {after : Array Edge} {gd : Option (Nat × Bool)}
theorem op_load_ptrsD {x : Operand} {t : TypeId} {d : TypeDesc} {id off n : Nat} {b : HB} (ds : List DV) (ht : P.underlying t = some d) (hd : notAgg d = false) (hn : (P.info? t).map (·.size) = some n) (hx : E x = .ptr id off) (hb : H.blks[id]? = some b)
    (hl : off + n ≤ b.cs.length) (hvs : (b.cs.drop off).take n = ds.map .d) (h1 : ∀ d ∈ ds, d.one = true) : OpR P ⟨dst, .load t x, ty, pos, after, gd⟩ E H (Ret (.d (.agg ds)) H) :=
  opR_weaken (op_load_ptrs ht hd hn hx hb hl hvs) fun _ _ h => rep_agg_d h1 h
end
end Go.AV
namespace Go.AV
theorem nb_le {Hs H : HS} (h : Ext Hs H) : Hs.nb ≤ H.nb := by
  obtain ⟨l, hl⟩ := h.blks
  simp [HS.nb, hl]
end Go.AV
namespace Go.AV
section
variable {P : Program} {T : List AV} {H H' : HS} {Φ : HS → Prop} {ops : Array Oper} {o : Oper} {l : List Oper} {fl : List Nat} {v : AV} {R : List AV → HS → Prop} {g d : Nat} {x : Bool}
theorem drun0X (ho : ∀ H, Φ H → OpR P o (evalT T) H (Ret v H)) (hg : o.guard = none) (h : DRunX P Φ ops l fl (putT T o.dst v) H R) : DRunX P Φ ops (o :: l) (0 :: fl) T H R := ⟨v, H, ⟨true, by rw [hg], rfl, ho⟩, .inr fun h => h, h⟩
theorem drun2X (ho : OpR P o (evalT T) H (Ret v H')) (hg : o.guard = none) (hΦ : l = [] ∨ Φ H') (h : DRunX P Φ ops l fl (putT T o.dst v) H' R) : DRunX P Φ ops (o :: l) (2 :: fl) T H R := ⟨v, H', ⟨true, by rw [hg], ho⟩, hΦ.imp id fun h _ => h, h⟩
end
end Go.AV
namespace Go.AV
section
variable {P : Program} {E : Operand → AV} {H : HS} {dst : Option Tmp} {ty : TypeId} {pos : String} {after : Array Edge} {gd : Option (Nat × Bool)}
theorem op_load_ptrsW {x : Operand} {t : TypeId} {d : TypeDesc} {id off n : Nat} {b : HB} (ds : List DV) (ht : P.underlying t = some d) (hd : notAgg d = false) (hn : (P.info? t).map (·.size) = some n) (hx : E x = .ptr id off) (hb : H.blks[id]? = some b)
    (hl : off + n ≤ b.cs.length) (hvs : Weaks ((b.cs.drop off).take n) (ds.map .d)) (h1 : ∀ d ∈ ds, d.one = true) : OpR P ⟨dst, .load t x, ty, pos, after, gd⟩ E H (Ret (.d (.agg ds)) H) :=
  opR_weaken (op_load_ptrs ht hd hn hx hb hl rfl) fun c x h => Weak.aggD hvs h1 c x h
end
end Go.AV
namespace Go.AV
open Go.RowKit
theorem ACalls.tidyB {P : Program} {f : FuncId} {args : List AV} {H : HS} {R : AV → HS → Prop}
    (h : ACalls P f args H fun av H' => ∃ Hf : HS, Fits H.blks.length H.toks.length av ∧ Hf.blks.length = H.blks.length ∧ Hf.toks.length = H.toks.length ∧ (∀ (i : Nat) (b : HB), Hf.blks[i]? = some b → ∀ (j : Nat) (hj : j < b.cs.length), H.blks[i]? = some b ∨ Fits H.blks.length H.toks.length b.cs[j]) ∧ Ext Hf H' ∧ R av Hf) :
    ACalls P f args H R := by
  intro B w0 c w vs hI hs ha
  refine (h B w0 c w vs hI hs ha).mono ?_
  rintro e w' ⟨v, av, H', c', rfl, h1, h2, h3, Hf, h4, hl1, hl2, hfit, ⟨⟨l1, h5⟩, ⟨l2, h6⟩, hmm⟩, h7⟩
  have hcut : H'.cut H.blks.length H.toks.length = Hf := by
    rw [← hl1, ← hl2]
    cases Hf
    simp only [HS.cut, h5, h6, List.take_left, hmm]
  have i1 := h3.cut H.blks.length H.toks.length (fun i b hi hb j hj => by
    have hb' : Hf.blks[i]? = some b := by rw [h5, List.getElem?_append_left (by omega)] at hb; exact hb
    rcases hfit i b hb' j hj with hb2 | hf
    · have hlt : i < c.blk.length := by rw [hI.blkLen]; exact hi
      obtain ⟨_, _, cur, fr, _, _, _, q⟩ := hI.blk i _ b (List.getElem?_eq_getElem hlt) hb2
      have := (q j hj).fits
      rwa [hI.blkLen, hI.tokLen] at this
    · exact hf)
  rw [hcut] at i1
  refine ⟨v, av, Hf, c'.cut H.blks.length H.toks.length, rfl, ⟨h1.mem, fun i g hi => ?_, fun i e he => ?_, fun i g hi => h1.maps i g hi⟩, h2.cut h4, i1, h7⟩
  · have : i < c.blk.length := (List.getElem?_eq_some_iff.1 hi).1
    show (c'.blk.take _)[i]? = _
    rw [List.getElem?_take, if_pos (by have := hI.blkLen; omega)]
    exact h1.blk i g hi
  · have : i < c.tok.length := (List.getElem?_eq_some_iff.1 he).1
    obtain ⟨e', q1, q2⟩ := h1.tok i e he
    refine ⟨e', ?_, q2⟩
    show (c'.tok.take _)[i]? = _
    rw [List.getElem?_take, if_pos (by have := hI.tokLen; omega)]
    exact q1
end Go.AV
namespace Go.AV.Oct
open Go.AV.Ord
abbrev RB (t : TypeId) (st : RS) : HB := ⟨t, [.d (S st.1), .d (TF st.2)], false⟩
theorem badN_big {c : UInt8} {r : List UInt8} (h : 8 < (c.toNat : Int)) : badN (c :: r) = true := by
  have : 8 < c.toNat := by omega
  simp [badN, this]
theorem badN_short {c : UInt8} {r : List UInt8} (h : (((c :: r).length : Nat) : Int) < 1 + (c.toNat : Int)) : badN (c :: r) = true := by
  have : r.length < c.toNat := by simp at h; omega
  simp [badN, this]
theorem badN_rest {c : UInt8} {r : List UInt8} (h1 : ¬ 8 < (c.toNat : Int)) (h2 : ¬ (((c :: r).length : Nat) : Int) < 1 + (c.toNat : Int)) : badN (c :: r) = (decide (0 < c.toNat) && (r.headD 0 == 0)) := by
  have h3 : ¬ 8 < c.toNat := by omega
  have h4 : ¬ r.length < c.toNat := by simp at h2; omega
  simp [badN, h3, h4]
end Go.AV.Oct
namespace Go.AV.Oct
open Go.AV.Ord
theorem badN_false {c : UInt8} {r : List UInt8} (h : badN (c :: r) = false) : c.toNat ≤ 8 ∧ c.toNat ≤ r.length := by
  simp [badN] at h
  omega
theorem rNum_bad (most : Int) (s : List UInt8) : rNum most (s, true) = (0, (s, true)) := by simp [rNum]
theorem rNum_badN {most : Int} {s : List UInt8} (h : badN s = true) : rNum most (s, false) = (0, ([], true)) := by simp [rNum, h]
theorem rNum_big {most : Int} {c : UInt8} {r : List UInt8} (h : badN (c :: r) = false) (hx : (if 0 > most then 0 else most) < (val (r.take c.toNat) : Int)) : rNum most (c :: r, false) = (0, ([], true)) := by
  have : max most 0 < (val (r.take c.toNat) : Int) := by
    split at hx <;> omega
  simp only [rNum, h]
  simp [this]
theorem rNum_ok {most : Int} {c : UInt8} {r : List UInt8} (h : badN (c :: r) = false) (hx : ¬ (if 0 > most then 0 else most) < (val (r.take c.toNat) : Int)) : rNum most (c :: r, false) = (val (r.take c.toNat), (r.drop c.toNat, false)) := by
  have : ¬ max most 0 < (val (r.take c.toNat) : Int) := by
    split at hx <;> omega
  simp only [rNum, h]
  simp [this, Nat.add_comm 1]
end Go.AV.Oct
namespace Go.AV.Oct
theorem badN_two {c d : UInt8} {r : List UInt8} (h1 : ¬ 8 < (c.toNat : Int)) (h2 : ¬ (((c :: d :: r).length : Nat) : Int) < 1 + (c.toNat : Int)) (h0 : 0 < (c.toNat : Int)) : badN (c :: d :: r) = ((d.toNat : Int) == 0) := by
  rw [badN_rest h1 h2]
  have h3 : 0 < c.toNat := by omega
  rw [Bool.eq_iff_iff]
  simp only [h3, decide_true, Bool.true_and, List.headD_cons, beq_iff_eq]
  constructor
  · intro h; subst h; rfl
  · intro h; apply UInt8.toNat_inj.1; show d.toNat = 0; omega
theorem badN_one {c : UInt8} {r : List UInt8} (h1 : ¬ 8 < (c.toNat : Int)) (h2 : ¬ (((c :: r).length : Nat) : Int) < 1 + (c.toNat : Int)) (h0 : ¬ 0 < (c.toNat : Int)) : badN (c :: r) = false := by
  rw [badN_rest h1 h2]
  have h3 : ¬ 0 < c.toNat := by omega
  simp [h3]
end Go.AV.Oct
namespace Go.AV.Oct
theorem flag_eq {c : UInt8} : (c == 1) = ((c.toNat : Int) == 1) := by
  rw [Bool.eq_iff_iff]
  simp only [beq_iff_eq]
  constructor
  · intro h; subst h; rfl
  · intro h; apply UInt8.toNat_inj.1; show c.toNat = 1; omega
end Go.AV.Oct
namespace Go.AV.Oct
open Go.AV.Ord
theorem shr_at (X : Nat) {k z : Nat} (h : k < z) (hz : z ≤ 8) : ((X : Nat) : Int).fdiv (2 ^ (min ((8 : Int) * ((z : Int) - 1 - (k : Int))).toNat IntKind.u64.bits)) = ((X / 256 ^ (z - 1 - k) : Nat) : Int) := by
  have e := shr_off X (j := 7 - (z - 1 - k)) (by omega)
  have h1 : (7 : Int) - ((7 - (z - 1 - k) : Nat) : Int) = (z : Int) - 1 - (k : Int) := by omega
  have h2 : 7 - (7 - (z - 1 - k)) = z - 1 - k := by omega
  rw [h1, h2] at e
  exact e
theorem shr8 (X : Nat) : ((X : Nat) : Int).fdiv (2 ^ (min (8 : Int).toNat IntKind.u64.bits)) = ((X / 256 : Nat) : Int) := by
  have e := shr_at X (k := 0) (z := 2) (by decide) (by decide)
  simpa using e
theorem numB_take (x : Nat) : (numB x).take 1 = [UInt8.ofNat (szN x)] := by simp [numB]
theorem numB_get {x k : Nat} (h : k < szN x) : (numB x)[k + 1]? = some (UInt8.ofNat (x / 256 ^ (szN x - 1 - k) % 256)) := by
  simp only [numB, List.getElem?_cons_succ]
  exact be_get _ _ _ h
theorem szN_8 {n : Int} (h : n ≤ 9223372036854775807) : szN n.toNat ≤ 8 := by
  refine szN_le 8 _ ?_
  have : n.toNat < 18446744073709551616 := by omega
  simpa using this
theorem numB_mod {n : Nat} (h : szN n ≤ 8) : (UInt8.ofNat (szN n % 256)) = UInt8.ofNat (szN n) := by rw [Nat.mod_eq_of_lt (by omega)]
end Go.AV.Oct
namespace Go.AV
theorem op_appendO {P : Program} {T : List AV} {Hs : HS} {dst : Option Tmp} {ty : TypeId} {pos : String} {after : Array Edge} {gd : Option (Nat × Bool)} {x y : Operand} {t' tx e : TypeId} {t : Option Nat} {w : AV} {ys : List DV} {l m : List UInt8} {k : Nat} (ht : P.underlying t' = some (.slice e)) (hi : tInfo P e (.int .u8 0) 1 1)
    (hx : evalT T x = ownB Hs t l) (hy : evalT T y = w) (hw : Adds P tx w 1 ys) (hys : ys = m.map BY) (hok : Hs.ok t k) (hn : l.length + m.length ≤ 140737488355328) :
    OpR P ⟨dst, .call ⟨.builtin .append, #[x, y], #[t', tx]⟩, ty, pos, after, gd⟩ (evalT T) (upB Hs t l) (Ret (ownB Hs t (l ++ m)) (upB Hs t (l ++ m))) := by
  subst hys hy
  have hv : App (evalT T x) (some (Hs.tk t)) 1 (l.map BY) := by rw [hx]; exact .own _ _ _
  by_cases hm : m = []
  · subst hm
    have h := op_append0 (dst := dst) (ty := ty) (pos := pos) (after := after) (gd := gd) (H := upB Hs t l) ht hi hv.ll hw
    rw [hx] at h
    simpa using h
  · have h0 : 0 < (m.map BY).length := by simpa using List.length_pos_iff.2 hm
    have h := op_append (dst := dst) (ty := ty) (pos := pos) (after := after) (gd := gd) (H := upB Hs t l) ht hi rfl hv hw (by simpa using HS.ok_up Hs t l.length hok) h0 (by simpa using hn) (by simpa using hn)
    have e1 : (AV.own (some ((upB Hs t l).tk (some (Hs.tk t)))) 1 (l.map BY ++ m.map BY)) = ownB Hs t (l ++ m) := by simp [ownB, HS.tk]
    have e2 : (upB Hs t l).up (some (Hs.tk t)) ((l.map BY).length + (m.map BY).length) = upB Hs t (l ++ m) := by
      rw [HS.up_up]; simp [upB]
    rw [e1, e2] at h
    exact h
end Go.AV
namespace Go.AV.Oct
theorem rNum_most {most : Int} {st st' : RS} {n : Nat} (h : rNum most st = (n, st')) : (n : Int) ≤ max most 0 := by
  unfold rNum at h
  split at h
  · cases h; omega
  · split at h
    · cases h; omega
    · simp only [] at h
      split at h
      · cases h; omega
      · rename_i hx
        cases h
        omega
end Go.AV.Oct
namespace Go.AV.Oct
open Go.AV.Ord
theorem szN_eq {x k : Nat} (h1 : 256 ^ k ≤ x) (h2 : x < 256 ^ (k + 1)) : szN x = k + 1 := by
  have h3 := szN_le _ _ h2
  have h4 := szN_lt x
  have h5 : ¬ szN x ≤ k := fun h => by
    have := Nat.pow_le_pow_right (n := 256) (by decide) h
    omega
  omega
theorem val_head {c : UInt8} {r : List UInt8} (h : c ≠ 0) : 256 ^ r.length ≤ val (c :: r) := by
  rw [val_cons]
  have : 0 < c.toNat := by
    rcases Nat.eq_zero_or_pos c.toNat with h0 | h0
    · exact absurd (UInt8.toNat_inj.1 (by rw [h0]; rfl)) h
    · exact h0
  have := Nat.mul_le_mul_right (256 ^ r.length) this
  omega
theorem numB_back {c : UInt8} {r : List UInt8} (h : badN (c :: r) = false) : c :: r = numB (val (r.take c.toNat)) ++ r.drop c.toNat := by
  have ⟨h1, h2⟩ := badN_false h
  have hl : (r.take c.toNat).length = c.toNat := by simp; omega
  have hz : szN (val (r.take c.toNat)) = c.toNat := by
    rcases Nat.eq_zero_or_pos c.toNat with h0 | h0
    · rw [h0]; simp [val, szN_zero]
    · obtain ⟨d, q, rfl⟩ : ∃ d q, r = d :: q := List.exists_cons_of_ne_nil (by intro e; subst e; simp at h2; omega)
      have hd : d ≠ 0 := by
        intro e
        subst e
        simp [badN, h0] at h
      obtain ⟨k, hk⟩ : ∃ k, c.toNat = k + 1 := ⟨c.toNat - 1, by omega⟩
      rw [hk] at hl ⊢
      rw [List.take_succ_cons] at hl ⊢
      have hl' : (q.take k).length = k := by simpa using hl
      have h3 := val_head (r := q.take k) hd
      have h4 := val_lt (d :: q.take k)
      rw [hl'] at h3
      rw [List.length_cons, hl'] at h4
      exact szN_eq h3 h4
  have hb := be_val (r.take c.toNat)
  rw [hl] at hb
  unfold numB
  rw [hz, hb]
  have hc : UInt8.ofNat c.toNat = c := by simp
  rw [hc]
  simp
theorem rNum_back {most : Int} {s s' : List UInt8} {x : Nat} (h : rNum most (s, false) = (x, (s', false))) : s = numB x ++ s' ∧ (x : Int) ≤ max most 0 := by
  simp only [rNum, Bool.false_eq_true, if_false] at h
  split at h
  · cases h
  · rename_i hb
    have hb' : badN s = false := by simpa using hb
    split at h
    · cases h
    · rename_i hx
      cases s with
      | nil => cases hb'
      | cons c r =>
        simp only [List.headD_cons, List.drop_succ_cons, List.drop_zero, Nat.add_comm 1, Prod.mk.injEq] at h hx
        obtain ⟨rfl, rfl, _⟩ := h
        exact ⟨numB_back hb', by omega⟩
theorem rText_back {most : Int} {s s' t : List UInt8} (h : rText most (s, false) = (t, (s', false))) : s = textB t ++ s' ∧ (t.length : Int) ≤ max most 0 := by
  unfold rText at h
  obtain ⟨n, ⟨s1, b1⟩, hr⟩ : ∃ n st, rNum most (s, false) = (n, st) := ⟨_, _, rfl⟩
  simp only [hr] at h
  split at h
  · rename_i hb
    simp at h hb
    obtain ⟨_, _, h⟩ := h
    rw [hb] at h; cases h
  · rename_i hb
    have hb' : b1 = false := by simpa using hb
    subst hb'
    split at h
    · cases h
    · rename_i hn
      simp only [Prod.mk.injEq] at h
      obtain ⟨rfl, rfl, _⟩ := h
      obtain ⟨h1, h2⟩ := rNum_back hr
      have hl : (s1.take n).length = n := by simp at hn ⊢; omega
      refine ⟨?_, by rw [hl]; exact h2⟩
      rw [textB, hl, List.append_assoc, List.take_append_drop]
      exact h1
theorem rText_bad (most : Int) (s : List UInt8) : rText most (s, true) = ([], (s, true)) := by simp [rText, rNum]
theorem rFlag_back {s s' : List UInt8} {b : Bool} (h : rFlag (s, false) = (b, (s', false))) : s = flagB b ++ s' := by
  cases s with
  | nil => simp [rFlag] at h
  | cons c r =>
    simp only [rFlag, Bool.false_eq_true, if_false] at h
    split at h
    · simp at h
    · rename_i hc
      simp only [Prod.mk.injEq] at h
      obtain ⟨rfl, rfl, _⟩ := h
      have : c = 0 ∨ c = 1 := by
        have h2 : c.toNat = 0 ∨ c.toNat = 1 := by omega
        rcases h2 with h2 | h2
        · exact .inl (UInt8.toNat_inj.1 (by rw [h2]; rfl))
        · exact .inr (UInt8.toNat_inj.1 (by rw [h2]; rfl))
      rcases this with rfl | rfl <;> rfl
theorem rFlag_bad (s : List UInt8) : rFlag (s, true) = (false, (s, true)) := by simp [rFlag]
end Go.AV.Oct
namespace Go.AV.Sch
open Go.AV.Ord Go.AV.Oct
structure Ix where
  name : List UInt8
  field : List UInt8
  uniq : Bool
def ixC (x : Ix) : List DV := [S x.name, S x.field, TF x.uniq]
def ixD (x : Ix) : DV := .agg (ixC x)
def ixB (x : Ix) : List UInt8 := textB x.name ++ textB x.field ++ flagB x.uniq
def encC (xs : List Ix) : List UInt8 := numB xs.length ++ xs.flatMap ixB
def rIx (st : RS) : Ix × RS :=
  let a := rText 40 st
  let b := rText 40 a.2
  let c := rFlag b.2
  (⟨a.1, b.1, c.1⟩, c.2)
theorem rIx_back {s s' : List UInt8} {x : Ix} (h : rIx (s, false) = (x, (s', false))) : s = ixB x ++ s' := by
  unfold rIx at h
  obtain ⟨a, ⟨s1, b1⟩, h1⟩ : ∃ n st, rText 40 (s, false) = (n, st) := ⟨_, _, rfl⟩
  obtain ⟨b, ⟨s2, b2⟩, h2⟩ : ∃ n st, rText 40 (s1, b1) = (n, st) := ⟨_, _, rfl⟩
  obtain ⟨c, ⟨s3, b3⟩, h3⟩ : ∃ n st, rFlag (s2, b2) = (n, st) := ⟨_, _, rfl⟩
  simp only [h1, h2, h3, Prod.mk.injEq] at h
  obtain ⟨rfl, rfl, rfl⟩ := h
  cases b1 with
  | true => rw [rText_bad] at h2; cases h2; rw [rFlag_bad] at h3; cases h3
  | false =>
    cases b2 with
    | true => rw [rFlag_bad] at h3; cases h3
    | false =>
      rw [(rText_back h1).1, (rText_back h2).1, rFlag_back h3]
      simp [ixB]
theorem rIx_bad (s : List UInt8) : (rIx (s, true)).2 = (s, true) := by simp [rIx, rText_bad, rFlag_bad]
def rIxs : Nat → RS → List Ix × RS
  | 0, st => ([], st)
  | n + 1, st => let r := rIxs n st; let x := rIx r.2; (r.1 ++ [x.1], x.2)
theorem rIxs_len : ∀ (n : Nat) (st : RS), (rIxs n st).1.length = n
  | 0, _ => rfl
  | n + 1, st => by simp [rIxs, rIxs_len n st]
theorem rIxs_back : ∀ (n : Nat) (s : List UInt8), (rIxs n (s, false)).2.2 = false → s = (rIxs n (s, false)).1.flatMap ixB ++ (rIxs n (s, false)).2.1
  | 0, s, _ => rfl
  | n + 1, s, h => by
    have ih := rIxs_back n s
    simp only [rIxs] at h ⊢
    obtain ⟨xs, ⟨s1, b1⟩, h1⟩ : ∃ xs st, rIxs n (s, false) = (xs, st) := ⟨_, _, rfl⟩
    rw [h1] at h ih ⊢
    cases b1 with
    | true => rw [rIx_bad] at h; cases h
    | false =>
      have ih' := ih rfl
      obtain ⟨x, ⟨s2, b2⟩, h2⟩ : ∃ x st, rIx (s1, false) = (x, st) := ⟨_, _, rfl⟩
      simp only [h2] at h ⊢
      subst h
      have h3 := rIx_back h2
      simp only [List.flatMap_append, List.flatMap_cons, List.flatMap_nil, List.append_nil, List.append_assoc]
      rw [← h3]
      exact ih'
theorem rIxs_bad : ∀ (n : Nat) (s : List UInt8), (rIxs n (s, true)).2 = (s, true)
  | 0, _ => rfl
  | n + 1, s => by simp only [rIxs, rIxs_bad n s]; exact rIx_bad s
def nameB (s : List UInt8) : Bool := !(s == []) && decide (s.length ≤ 40)
def rightIx (xs : List Ix) (i : Nat) (x : Ix) : Bool := nameB x.name && decide (x.field.length ≤ 40) && !((xs.take i).any fun y => x.name == y.name)
def rightC (name : List UInt8) (xs : List Ix) : Bool := nameB name && decide (xs.length ≤ 8) && (List.range xs.length).all fun i => match xs[i]? with | some x => rightIx xs i x | none => true
def decC (s : List UInt8) : List Ix × RS := let r := rNum 8 (s, false); rIxs r.1 r.2
theorem decC_back {s : List UInt8} (h : rEnd (decC s).2 = 0) : encC (decC s).1 = s := by
  unfold decC at h ⊢
  obtain ⟨n, ⟨s1, b1⟩, h1⟩ : ∃ n st, rNum 8 (s, false) = (n, st) := ⟨_, _, rfl⟩
  rw [h1] at h ⊢
  simp only [] at h ⊢
  have hend : (rIxs n (s1, b1)).2 = ([], false) := by
    unfold rEnd rErr at h
    split at h
    · cases h
    · rename_i hl
      split at h
      · cases h
      · rename_i hb
        have e1 : (rIxs n (s1, b1)).2.1 = [] := List.length_eq_zero_iff.1 (by omega)
        have e2 : (rIxs n (s1, b1)).2.2 = false := by simpa using hb
        exact Prod.ext e1 e2
  cases b1 with
  | true => rw [rIxs_bad] at hend; cases hend
  | false =>
    have h2 := rIxs_back n s1 (by rw [hend])
    rw [hend, List.append_nil] at h2
    unfold encC
    rw [rIxs_len, ← h2, ← (rNum_back h1).1]
end Go.AV.Sch
namespace Go.AV.Sch
open Go.AV.Ord Go.AV.Oct
def rightAt (xs : List Ix) (i : Nat) : Bool := match xs[i]? with | some x => rightIx xs i x | none => true
theorem rightC_eq (name : List UInt8) (xs : List Ix) : rightC name xs = (nameB name && decide (xs.length ≤ 8) && (List.range xs.length).all (rightAt xs)) := rfl
theorem rightAt_some {xs : List Ix} {i : Nat} {x : Ix} (h : xs[i]? = some x) : rightAt xs i = rightIx xs i x := by simp [rightAt, h]
theorem right_step {xs : List Ix} {k : Nat} (h : (List.range k).all (rightAt xs) = true) (h1 : rightAt xs k = true) : (List.range (k + 1)).all (rightAt xs) = true := by
  rw [List.range_succ, List.all_append, h]; simp [h1]
theorem right_bad {name : List UInt8} {xs : List Ix} {k : Nat} (hk : k < xs.length) (h1 : rightAt xs k = false) : rightC name xs = false := by
  rw [rightC_eq]
  have : (List.range xs.length).all (rightAt xs) = false := by
    rw [List.all_eq_false]
    exact ⟨k, by simpa using hk, by simp [h1]⟩
  simp [this]
end Go.AV.Sch
namespace Go.AV.Sch
theorem nameB_ne {s : List UInt8} (h : ¬ s = []) : nameB s = decide ((s.length : Int) ≤ 40) := by
  unfold nameB
  rw [Bool.eq_iff_iff]
  simp [h]
  omega
end Go.AV.Sch
namespace Go.AV.Sch
open Go.AV.Ord Go.AV.Oct
def encK (xs : List Ix) (k : Nat) : List UInt8 := numB xs.length ++ (xs.take k).flatMap ixB
theorem encK_zero (xs : List Ix) : encK xs 0 = numB xs.length := by simp [encK]
theorem encK_full (xs : List Ix) : encK xs xs.length = encC xs := by simp [encK, encC]
theorem encK_step {xs : List Ix} {k : Nat} {y : Ix} (h : xs[k]? = some y) : encK xs (k + 1) = encK xs k ++ textB y.name ++ textB y.field ++ flagB y.uniq := by
  simp [encK, take_snoc h, ixB]
theorem encK_len {xs : List Ix} {k : Nat} {y : Ix} (h : xs[k]? = some y) : (encK xs k).length + (ixB y).length ≤ (encC xs).length := by
  have hk : k < xs.length := (List.getElem?_eq_some_iff.1 h).1
  have h1 : xs.take k ++ (y :: xs.drop (k + 1)) = xs := by
    obtain ⟨h3, rfl⟩ := List.getElem?_eq_some_iff.1 h
    rw [← List.drop_eq_getElem_cons h3, List.take_append_drop]
  have h2 : xs.flatMap ixB = (xs.take k).flatMap ixB ++ (ixB y ++ (xs.drop (k + 1)).flatMap ixB) := by
    conv => lhs; rw [← h1]
    simp
  have e : (encC xs).length = (numB xs.length).length + ((xs.take k).flatMap ixB).length + (ixB y).length + ((xs.drop (k + 1)).flatMap ixB).length := by
    unfold encC
    rw [h2]
    simp only [List.length_append]
    omega
  have e2 : (encK xs k).length = (numB xs.length).length + ((xs.take k).flatMap ixB).length := by simp only [encK, List.length_append]
  omega
theorem textB_ge (s : List UInt8) : s.length + 1 ≤ (textB s).length := by simp [textB, numB]
end Go.AV.Sch
namespace Go.AV.Sch
open Go.AV.Ord Go.AV.Oct
def decOk (name s : List UInt8) : Bool := rEnd (decC s).2 == 0 && rightC name (decC s).1
def decErr (name s : List UInt8) : Int := if decOk name s then 0 else 2
def decName (name s : List UInt8) : List UInt8 := if decOk name s then name else []
def decIxs (name s : List UInt8) : List Ix := if decOk name s then (decC s).1 else []
structure DecS (Hs : HS) (tC tR : TypeId) (H : HS) (name : List UInt8) (v : AV) (t : Option Nat) (xs : List Ix) (st : RS) : Prop where
  e1 : ∃ a b, H.blks[Hs.nb]? = some ⟨tC, [a, b], false⟩
  e2 : H.blks[Hs.nb + 1]? = some (RB tR st)
  e3 : H.blks[Hs.nb + 2]? = some ⟨tC, [.d (S name), v], false⟩
  app : App v t 3 (xs.map ixD)
  ok : H.ok t xs.length
  new : NewTok Hs t
  ext : Ext Hs H
theorem DecS.step {Hs H : HS} {tC tR : TypeId} {name : List UInt8} {v : AV} {t : Option Nat} {xs : List Ix} {st st1 st2 st3 : RS} {x : Ix} {m : Nat} (h : DecS Hs tC tR H name v t xs st) (hm : m = xs.length + 1) :
    DecS Hs tC tR (((((H.setB (Hs.nb + 1) (RB tR st1)).setB (Hs.nb + 1) (RB tR st2)).setB (Hs.nb + 1) (RB tR st3)).up t m).setB (Hs.nb + 2) ⟨tC, [.d (S name), .own (some (H.tk t)) 3 (xs.map ixD ++ [ixD x])], false⟩) name (.own (some (H.tk t)) 3 (xs.map ixD ++ [ixD x])) (some (H.tk t)) (xs ++ [x]) st3 := by
  subst hm
  obtain ⟨⟨a, b, e1⟩, e2, e3, app, ok, new, ext⟩ := h
  have hx := ((((ext.setB (b := RB tR st1) (Nat.le_succ _)).setB (b := RB tR st2) (Nat.le_succ Hs.nb)).setB (b := RB tR st3) (Nat.le_succ Hs.nb)).upN (n := xs.length + 1) new ok)
  refine ⟨⟨a, b, ?_⟩, ?_, ?_, ?_, ?_, hx.2, hx.1.setB (by omega)⟩
  · rw [setB_ne (by omega), HS.up_blks, setB_ne (by omega), setB_ne (by omega), setB_ne (by omega)]; exact e1
  · rw [setB_ne (by omega), HS.up_blks]
    exact setB_at (setB_at (setB_at e2))
  · refine setB_at (b := ⟨tC, [.d (S name), v], false⟩) ?_
    rw [HS.up_blks, setB_ne (by omega), setB_ne (by omega), setB_ne (by omega)]; exact e3
  · have := App.own (some (H.tk t)) 3 (xs.map ixD ++ [ixD x])
    simpa using this
  · have := HS.ok_up (((H.setB (Hs.nb + 1) (RB tR st1)).setB (Hs.nb + 1) (RB tR st2)).setB (Hs.nb + 1) (RB tR st3)) t (xs.length + 1) ok
    rw [List.length_append]
    exact this
theorem DecS.start (Hs : HS) (tC tR : TypeId) (name s : List UInt8) (a b c d : AV) (st : RS) :
    DecS Hs tC tR ((((Hs.push tC [a, b]).push tR [.d (S s), .d (TF false)]).push tC [c, d]).setB (Hs.nb + 2) ⟨tC, [.d (S name), nilS], false⟩ |>.setB (Hs.nb + 1) (RB tR st)) name nilS none [] st := by
  have n1 : (Hs.push tC [a, b]).nb = Hs.nb + 1 := push_nb
  have n2 : ((Hs.push tC [a, b]).push tR [.d (S s), .d (TF false)]).nb = Hs.nb + 2 := by rw [push_nb, n1]
  have e1 : (Hs.push tC [a, b]).blks[Hs.nb]? = some ⟨tC, [a, b], false⟩ := push_at
  have e2 : ((Hs.push tC [a, b]).push tR [.d (S s), .d (TF false)]).blks[Hs.nb + 1]? = some (RB tR (s, false)) := by rw [← n1]; exact push_at
  have e3 : (((Hs.push tC [a, b]).push tR [.d (S s), .d (TF false)]).push tC [c, d]).blks[Hs.nb + 2]? = some ⟨tC, [c, d], false⟩ := by rw [← n2]; exact push_at
  refine ⟨⟨a, b, ?_⟩, ?_, ?_, App.nil _, HS.ok_none _ _, NewTok.none _, ?_⟩
  · rw [setB_ne (by omega), setB_ne (by omega)]; exact push_ne (push_ne e1)
  · exact setB_at (b := RB tR (s, false)) (by rw [setB_ne (by omega)]; exact push_ne e2)
  · rw [setB_ne (by omega)]; exact setB_at e3
  · exact ((((((Ext.refl Hs).push _ _).push _ _).push _ _).setB (by omega)).setB (by omega))
end Go.AV.Sch
namespace Go.AV.Sch
open Go.AV.Ord Go.AV.Oct
theorem dec_err {name s : List UInt8} (h : ¬ decErr name s = 0) : decOk name s = false ∧ decErr name s = 2 ∧ decName name s = [] ∧ decIxs name s = [] := by
  cases hd : decOk name s with
  | true => simp [decErr, hd] at h
  | false => simp [decErr, decName, decIxs, hd]
theorem dec_err0 {name s : List UInt8} (h : decErr name s = 0) : decOk name s = true := by
  cases hd : decOk name s with
  | true => rfl
  | false => simp [decErr, hd] at h
end Go.AV.Sch
namespace Go.AV.Val
open Go.AV.Ord Go.AV.Oct
mutual
inductive V where
  | mk (kind : Int) (yes : Bool) (num : Int) (text : List UInt8) (list : List V) (fields : List F)
inductive F where
  | mk (name : List UInt8) (val : V)
end
def V.kind : V → Int | .mk k _ _ _ _ _ => k
def V.yes : V → Bool | .mk _ y _ _ _ _ => y
def V.num : V → Int | .mk _ _ n _ _ _ => n
def V.text : V → List UInt8 | .mk _ _ _ t _ _ => t
def V.list : V → List V | .mk _ _ _ _ l _ => l
def V.fields : V → List F | .mk _ _ _ _ _ fs => fs
def F.name : F → List UInt8 | .mk n _ => n
def F.val : F → V | .mk _ v => v
mutual
def vC : V → List DV
  | .mk k y n t l fs => [I k, TF y, .v (.int .i64 n), S t, .lst 6 (vsD l), .lst 7 (fsD fs)]
def vsD : List V → List DV
  | [] => []
  | v :: l => .agg (vC v) :: vsD l
def fsD : List F → List DV
  | [] => []
  | f :: l => .agg (fC f) :: fsD l
def fC : F → List DV
  | .mk n v => S n :: vC v
end
def vD (v : V) : DV := .agg (vC v)
def fD (f : F) : DV := .agg (fC f)
theorem vsD_map : ∀ l : List V, vsD l = l.map vD
  | [] => by simp [vsD]
  | v :: l => by rw [vsD, vsD_map l]; rfl
theorem fsD_map : ∀ l : List F, fsD l = l.map fD
  | [] => by simp [fsD]
  | v :: l => by rw [fsD, fsD_map l]; rfl
theorem vC_eq (v : V) : vC v = [I v.kind, TF v.yes, .v (.int .i64 v.num), S v.text, .lst 6 (v.list.map vD), .lst 7 (v.fields.map fD)] := by
  cases v
  rw [vC, vsD_map, fsD_map]; rfl
theorem fC_eq (f : F) : fC f = S f.name :: vC f.val := by
  cases f
  rw [fC]; rfl
def V0 : V := .mk 0 false 0 [] [] []
theorem V.eta (v : V) : v = .mk v.kind v.yes v.num v.text v.list v.fields := by cases v; rfl
theorem F.eta (v : F) : v = .mk v.name v.val := by cases v; rfl
theorem list_lt {v x : V} (h : x ∈ v.list) : SizeOf.sizeOf x < SizeOf.sizeOf v := by
  cases v
  have h1 := List.sizeOf_lt_of_mem h
  simp only [V.list, V.mk.sizeOf_spec] at *
  omega
theorem field_lt {v : V} {f : F} (h : f ∈ v.fields) : SizeOf.sizeOf f.val < SizeOf.sizeOf v := by
  cases v
  have h1 := List.sizeOf_lt_of_mem h
  cases f
  simp only [V.fields, F.val, V.mk.sizeOf_spec, F.mk.sizeOf_spec] at *
  omega
def rises : List F → Bool
  | [] => true
  | [_] => true
  | a :: b :: l => Op.bytesLess a.name b.name && rises (b :: l)
def onlyV (v : V) : Bool := decide (0 ≤ v.kind) && decide (v.kind ≤ 5) && (v.kind == 1 || v.yes == false) && (v.kind == 2 || v.num == 0) && (v.kind == 3 || v.text == []) && (v.kind == 4 || v.list.isEmpty) && (v.kind == 5 || v.fields.isEmpty)
def rightV : Nat → V → Bool
  | 0, _ => false
  | d + 1, v => onlyV v && rises v.fields && v.fields.all (fun f => rightV d f.val) && v.list.all (rightV d)
def zigN (n : Int) : Nat := if 0 ≤ n then 2 * n.toNat else 2 * (-n - 1).toNat + 1
def unzig (x : Nat) : Int := if x % 2 = 0 then x / 2 else -(x / 2) - 1
theorem unzig_zig (n : Int) : unzig (zigN n) = n := by
  unfold unzig zigN
  split <;> split <;> omega
theorem zig_unzig (x : Nat) : zigN (unzig x) = x := by
  unfold unzig zigN
  split <;> split <;> omega
theorem zig_lt {n : Int} (h1 : -9223372036854775808 ≤ n) (h2 : n ≤ 9223372036854775807) : zigN n < 18446744073709551616 := by
  unfold zigN
  split <;> omega
def intB (n : Int) : List UInt8 := numB (zigN n / 4294967296) ++ numB (zigN n % 4294967296)
mutual
def encV : V → List UInt8
  | .mk k y n t l fs => UInt8.ofNat k.toNat :: (if k = 1 then flagB y else if k = 2 then intB n else if k = 3 then textB t else if k = 4 then numB l.length ++ encL l else if k = 5 then numB fs.length ++ encF fs else [])
def encL : List V → List UInt8
  | [] => []
  | v :: l => encV v ++ encL l
def encF : List F → List UInt8
  | [] => []
  | .mk n v :: l => textB n ++ encV v ++ encF l
end
theorem encL_flat : ∀ l : List V, encL l = l.flatMap encV
  | [] => by simp [encL]
  | v :: l => by rw [encL, encL_flat l]; rfl
def fieldB (f : F) : List UInt8 := textB f.name ++ encV f.val
theorem encF_flat : ∀ l : List F, encF l = l.flatMap fieldB
  | [] => by simp [encF]
  | .mk n v :: l => by rw [encF, encF_flat l]; rfl
theorem encV_eq (v : V) : encV v = UInt8.ofNat v.kind.toNat :: (if v.kind = 1 then flagB v.yes else if v.kind = 2 then intB v.num else if v.kind = 3 then textB v.text else if v.kind = 4 then numB v.list.length ++ v.list.flatMap encV else if v.kind = 5 then numB v.fields.length ++ v.fields.flatMap fieldB else []) := by
  cases v
  rw [encV, encL_flat, encF_flat]; rfl
abbrev DS := RS × Int
def broke (st : DS) : Bool := !(st.2 == 0) || st.1.2
def rKind (st : DS) : Int × DS := match st.1.1 with
  | [] => (0, (st.1, 2))
  | c :: r => if 5 < c.toNat then (0, ((r, st.1.2), 2)) else (c.toNat, ((r, st.1.2), st.2))
def rL (f : DS → V × DS) : Nat → DS → List V × DS
  | 0, st => ([], st)
  | n + 1, st => let r := rL f n st; if broke r.2 then r else let x := f r.2; (r.1 ++ [x.1], x.2)
def notBelow (l : List F) (n : List UInt8) : Bool := match l.getLast? with
  | some f => !Op.bytesLess f.name n
  | none => false
def rF (f : DS → V × DS) : Nat → DS → List F × DS
  | 0, st => ([], st)
  | n + 1, st => let r := rF f n st; if broke r.2 then r else
    let t := rText 4096 r.2.1
    let x := f (t.2, if notBelow r.1 t.1 then 2 else r.2.2)
    (r.1 ++ [.mk t.1 x.1], x.2)
def rInt (st : RS) : Int × RS := let a := rNum 4294967295 st; let b := rNum 4294967295 a.2; (unzig (a.1 * 4294967296 + b.1), b.2)
def rBody (f : DS → V × DS) (k : Int) (st : DS) : V × DS :=
  if k = 1 then let y := rFlag st.1; (.mk 1 y.1 0 [] [] [], (y.2, st.2))
  else if k = 2 then let x := rInt st.1; (.mk 2 false x.1 [] [] [], (x.2, st.2))
  else if k = 3 then let t := rText 4096 st.1; (.mk 3 false 0 t.1 [] [], (t.2, st.2))
  else if k = 4 then let n := rNum 4096 st.1; let l := rL f n.1 (n.2, st.2); (.mk 4 false 0 [] l.1 [], l.2)
  else if k = 5 then let n := rNum 4096 st.1; let l := rF f n.1 (n.2, st.2); (.mk 5 false 0 [] [] l.1, l.2)
  else (.mk k false 0 [] [] [], st)
def rV : Nat → DS → V × DS
  | 0, st => if broke st then (V0, st) else (V0, (st.1, 3))
  | d + 1, st => if broke st then (V0, st) else let k := rKind st; rBody (rV d) k.1 k.2
end Go.AV.Val
namespace Go.AV.Oct
open Go.AV.Ord
theorem ofNat_toNat {n : Nat} (h : n < 256) : (UInt8.ofNat n).toNat = n := by
  simp; omega
theorem rNum_fwd {most : Int} {x : Nat} (r : List UInt8) (hz : szN x ≤ 8) (hx : (x : Int) ≤ most) : rNum most (numB x ++ r, false) = (x, (r, false)) := by
  have hc : (UInt8.ofNat (szN x)).toNat = szN x := ofNat_toNat (by omega)
  have hlen : (be (szN x) x).length = szN x := be_len _ _
  have hbad : badN (numB x ++ r) = false := by
    show badN (UInt8.ofNat (szN x) :: (be (szN x) x ++ r)) = false
    have h1 : ¬ 8 < szN x := by omega
    have h2 : ¬ (be (szN x) x ++ r).length < szN x := by rw [List.length_append, hlen]; omega
    by_cases hx0 : x = 0
    · subst hx0; simp [badN, szN_zero]
    · have h3 : szN x ≠ 0 := by rw [szN_pos hx0]; omega
      have h4 := be_get (szN x) x 0 (by omega)
      have h5 := szN_top hx0
      have h6 := szN_lt x
      have h7 : x / 256 ^ (szN x - 1) < 256 := by
        rw [Nat.div_lt_iff_lt_mul (Nat.pow_pos (by decide)), ← Nat.pow_succ']
        rw [show (szN x - 1).succ = szN x by omega]; exact h6
      have h8 : 1 ≤ x / 256 ^ (szN x - 1) := (Nat.le_div_iff_mul_le (Nat.pow_pos (by decide))).2 (by omega)
      have h9 : (be (szN x) x ++ r).headD 0 = UInt8.ofNat (x / 256 ^ (szN x - 1)) := by
        cases hq : be (szN x) x with
        | nil => rw [hq] at h4; cases h4
        | cons c q =>
          rw [hq] at h4
          simp only [List.getElem?_cons_zero, Option.some.injEq, Nat.sub_zero] at h4
          rw [Nat.mod_eq_of_lt h7] at h4
          rw [h4]; rfl
      have h10 : ((be (szN x) x ++ r).headD 0 == 0) = false := by
        rw [h9, beq_eq_false_iff_ne]
        intro h
        have := congrArg UInt8.toNat h
        rw [ofNat_toNat h7] at this
        have h0 : (0 : UInt8).toNat = 0 := rfl
        omega
      simp only [badN, hc, h1, h2, h10]
      simp
  have hv : val (be (szN x) x) = x := val_be _ _ (szN_lt x)
  have ht : ((numB x ++ r).drop 1).take (szN x) = be (szN x) x := by
    show (be (szN x) x ++ r).take (szN x) = _
    exact List.take_left' hlen
  have hd : (numB x ++ r).drop (1 + szN x) = r := by
    rw [Nat.add_comm]
    show (be (szN x) x ++ r).drop (szN x) = r
    exact List.drop_left' hlen
  have hh : ((numB x ++ r).headD 0).toNat = szN x := hc
  simp only [rNum, hbad, hh, ht, hv, hd, Bool.false_eq_true, if_false]
  rw [if_neg (by omega)]
theorem szN_4 {x : Nat} (h : x ≤ 4294967295) : szN x ≤ 8 := by
  refine szN_le 8 _ ?_
  have : x < 18446744073709551616 := by omega
  simpa using this
theorem rText_fwd {most : Int} {s : List UInt8} (r : List UInt8) (hm : most ≤ 4294967295) (hx : (s.length : Int) ≤ most) : rText most (textB s ++ r, false) = (s, (r, false)) := by
  have h := rNum_fwd (most := most) (x := s.length) (s ++ r) (szN_4 (by omega)) hx
  have e : textB s ++ r = numB s.length ++ (s ++ r) := by simp [textB]
  simp only [rText, e, h, Bool.false_eq_true, if_false]
  rw [if_neg (by simp)]
  simp
theorem rFlag_fwd (b : Bool) (r : List UInt8) : rFlag (flagB b ++ r, false) = (b, (r, false)) := by
  cases b <;> rfl
end Go.AV.Oct
namespace Go.AV.Val
open Go.AV.Ord Go.AV.Oct
theorem broke_ok (s : List UInt8) : broke ((s, false), 0) = false := rfl
theorem broke_false {st : DS} (h : broke st = false) : st = ((st.1.1, false), 0) := by
  obtain ⟨⟨s, b⟩, e⟩ := st
  simp [broke] at h
  simp [h]
theorem rV_broke {d : Nat} {st : DS} (h : broke st = true) : rV d st = (V0, st) := by
  cases d <;> simp [rV, h]
theorem rL_broke {f : DS → V × DS} {st : DS} (h : broke st = true) : ∀ n, rL f n st = ([], st)
  | 0 => rfl
  | n + 1 => by simp [rL, rL_broke h n, h]
theorem rF_broke {f : DS → V × DS} {st : DS} (h : broke st = true) : ∀ n, rF f n st = ([], st)
  | 0 => rfl
  | n + 1 => by simp [rF, rF_broke h n, h]
structure Reads (f : DS → V × DS) (rt : V → Bool) : Prop where
  br : ∀ st, broke st = true → f st = (V0, st)
  back : ∀ s v s', f ((s, false), 0) = (v, ((s', false), 0)) → s = encV v ++ s' ∧ rt v = true
theorem good_of {st : DS} {s' : List UInt8} (f : DS → V × DS) (h : ∀ st, broke st = true → (f st).2 = st) (e : (f st).2 = ((s', false), 0)) : broke st = false := by
  cases hb : broke st with
  | false => rfl
  | true => rw [h st hb] at e; rw [e] at hb; cases hb
theorem rL_back {f : DS → V × DS} {rt : V → Bool} (hf : Reads f rt) : ∀ (n : Nat) (s : List UInt8) (l : List V) (s' : List UInt8), rL f n ((s, false), 0) = (l, ((s', false), 0)) → s = l.flatMap encV ++ s' ∧ l.length = n ∧ l.all rt = true
  | 0, s, l, s', h => by
    simp only [rL, Prod.mk.injEq] at h
    obtain ⟨rfl, ⟨rfl, _⟩, _⟩ := h
    exact ⟨rfl, rfl, rfl⟩
  | n + 1, s, l, s', h => by
    obtain ⟨l1, st1, h1⟩ : ∃ l st, rL f n ((s, false), 0) = (l, st) := ⟨_, _, rfl⟩
    simp only [rL, h1] at h
    split at h
    · rename_i hb
      simp only [Prod.mk.injEq] at h
      rw [h.2] at hb; cases hb
    · rename_i hb
      have hb' : broke st1 = false := by simpa using hb
      have e1 := broke_false hb'
      rw [e1] at h1
      obtain ⟨i1, i2, i3⟩ := rL_back hf n s l1 _ h1
      obtain ⟨x, st2, h2⟩ : ∃ x st, f st1 = (x, st) := ⟨_, _, rfl⟩
      simp only [h2, Prod.mk.injEq] at h
      obtain ⟨rfl, rfl⟩ := h
      rw [e1] at h2
      obtain ⟨j1, j2⟩ := hf.back _ _ _ h2
      refine ⟨?_, by simp [i2], by simp [i3, j2]⟩
      rw [i1, j1]; simp
theorem rises_snoc : ∀ (l : List F) (f : F), rises (l ++ [f]) = (rises l && !notBelow l f.name)
  | [], _ => rfl
  | [a], f => by simp [rises, notBelow]
  | a :: b :: l, f => by
    have ih := rises_snoc (b :: l) f
    have e : notBelow (a :: b :: l) f.name = notBelow (b :: l) f.name := by simp [notBelow]
    simp only [List.cons_append, rises] at ih ⊢
    rw [ih, e, Bool.and_assoc]
theorem rF_back {f : DS → V × DS} {rt : V → Bool} (hf : Reads f rt) : ∀ (n : Nat) (s : List UInt8) (l : List F) (s' : List UInt8), rF f n ((s, false), 0) = (l, ((s', false), 0)) → s = l.flatMap fieldB ++ s' ∧ l.length = n ∧ rises l = true ∧ (l.all fun f => rt f.val) = true
  | 0, s, l, s', h => by
    simp only [rF, Prod.mk.injEq] at h
    obtain ⟨rfl, ⟨rfl, _⟩, _⟩ := h
    exact ⟨rfl, rfl, rfl, rfl⟩
  | n + 1, s, l, s', h => by
    obtain ⟨l1, st1, h1⟩ : ∃ l st, rF f n ((s, false), 0) = (l, st) := ⟨_, _, rfl⟩
    simp only [rF, h1] at h
    split at h
    · rename_i hb
      simp only [Prod.mk.injEq] at h
      rw [h.2] at hb; cases hb
    · rename_i hb
      have hb' : broke st1 = false := by simpa using hb
      have e1 := broke_false hb'
      rw [e1] at h1
      obtain ⟨i1, i2, i3, i4⟩ := rF_back hf n s l1 _ h1
      obtain ⟨t, ⟨s2, b2⟩, h2⟩ : ∃ x st, rText 4096 st1.1 = (x, st) := ⟨_, _, rfl⟩
      obtain ⟨x, st3, h3⟩ : ∃ x st, f ((s2, b2), if notBelow l1 t then 2 else st1.2) = (x, st) := ⟨_, _, rfl⟩
      simp only [h2, h3, Prod.mk.injEq] at h
      obtain ⟨rfl, rfl⟩ := h
      have hg := good_of f (fun st h => by rw [hf.br st h]) (by rw [h3])
      have e2 := broke_false hg
      simp only [Prod.mk.injEq] at e2
      obtain ⟨⟨_, rfl⟩, e2⟩ := e2
      rw [e2] at h3
      have hnb : notBelow l1 t = false := by
        cases hn : notBelow l1 t with
        | false => rfl
        | true => rw [hn] at e2; cases e2
      obtain ⟨j1, j2⟩ := hf.back _ _ _ h3
      have k1 : st1.1 = (st1.1.1, false) := by rw [e1]
      rw [k1] at h2
      have h4 := (rText_back h2).1
      refine ⟨?_, by simp [i2], by rw [rises_snoc, i3]; simp [F.name, hnb], by rw [List.all_append, i4]; simp [F.val, j2]⟩
      rw [i1, h4, j1]; simp [fieldB, F.name, F.val]
theorem rInt_back {s s' : List UInt8} {n : Int} (h : rInt (s, false) = (n, (s', false))) : s = intB n ++ s' := by
  unfold rInt at h
  obtain ⟨a, ⟨s1, b1⟩, h1⟩ : ∃ n st, rNum 4294967295 (s, false) = (n, st) := ⟨_, _, rfl⟩
  obtain ⟨b, ⟨s2, b2⟩, h2⟩ : ∃ n st, rNum 4294967295 (s1, b1) = (n, st) := ⟨_, _, rfl⟩
  simp only [h1, h2, Prod.mk.injEq] at h
  obtain ⟨rfl, rfl, rfl⟩ := h
  cases b1 with
  | true => rw [rNum_bad] at h2; cases h2
  | false =>
    have k1 := rNum_back h1
    have k2 := rNum_back h2
    have hb := k2.2
    unfold intB
    rw [zig_unzig, show (a * 4294967296 + b) / 4294967296 = a by omega, show (a * 4294967296 + b) % 4294967296 = b by omega, k1.1, k2.1]
    simp
theorem ofNat_byte (c : UInt8) : UInt8.ofNat ((c.toNat : Int).toNat) = c := by simp
theorem rV_back : ∀ d, Reads (rV d) (rightV d)
  | 0 => ⟨fun st h => rV_broke h, fun s v s' h => by simp [rV, broke] at h⟩
  | d + 1 => by
    refine ⟨fun st h => rV_broke h, fun s v s' h => ?_⟩
    have ih := rV_back d
    simp only [rV, broke_ok, Bool.false_eq_true, if_false] at h
    cases s with
    | nil => simp [rKind, rBody] at h
    | cons c r =>
      simp only [rKind] at h
      split at h
      · simp [rBody] at h
      · rename_i hc
        simp only [rBody] at h
        have hk := ofNat_byte c
        have hlt : (c.toNat : Int) ≤ 5 := by omega
        generalize hK : (c.toNat : Int) = K at h hk hlt
        have hK0 : 0 ≤ K := by omega
        clear hK
        rw [encV_eq]
        split at h
        · rename_i h1
          obtain ⟨y, st, h2⟩ : ∃ n st, rFlag (r, false) = (n, st) := ⟨_, _, rfl⟩
          simp only [h2, Prod.mk.injEq] at h
          obtain ⟨rfl, rfl, _⟩ := h
          subst h1
          exact ⟨by rw [rFlag_back h2, ← hk]; simp [V.kind, V.yes], by simp [rightV, onlyV, rises, V.kind, V.yes, V.num, V.text, V.list, V.fields]⟩
        · rename_i g1
          split at h
          · rename_i h1
            obtain ⟨y, st, h2⟩ : ∃ n st, rInt (r, false) = (n, st) := ⟨_, _, rfl⟩
            simp only [h2, Prod.mk.injEq] at h
            obtain ⟨rfl, rfl, _⟩ := h
            subst h1
            exact ⟨by rw [rInt_back h2, ← hk]; simp [V.kind, V.num], by simp [rightV, onlyV, rises, V.kind, V.yes, V.num, V.text, V.list, V.fields]⟩
          · rename_i g2
            split at h
            · rename_i h1
              obtain ⟨y, st, h2⟩ : ∃ n st, rText 4096 (r, false) = (n, st) := ⟨_, _, rfl⟩
              simp only [h2, Prod.mk.injEq] at h
              obtain ⟨rfl, rfl, _⟩ := h
              subst h1
              exact ⟨by rw [(rText_back h2).1, ← hk]; simp [V.kind, V.text], by simp [rightV, onlyV, rises, V.kind, V.yes, V.num, V.text, V.list, V.fields]⟩
            · rename_i g3
              split at h
              · rename_i h1
                obtain ⟨n, ⟨s1, b1⟩, h2⟩ : ∃ n st, rNum 4096 (r, false) = (n, st) := ⟨_, _, rfl⟩
                simp only [h2] at h
                obtain ⟨l, st, h3⟩ : ∃ l st, rL (rV d) n ((s1, b1), 0) = (l, st) := ⟨_, _, rfl⟩
                simp only [h3, Prod.mk.injEq] at h
                obtain ⟨rfl, rfl⟩ := h
                cases b1 with
                | true => rw [rL_broke rfl] at h3; cases h3
                | false =>
                  obtain ⟨k1, k2, k3⟩ := rL_back ih _ _ _ _ h3
                  subst h1
                  exact ⟨by rw [(rNum_back h2).1, ← hk, k1]; simp [V.kind, V.list, k2], by simp [rightV, onlyV, rises, V.kind, V.yes, V.num, V.text, V.list, V.fields]; simpa using k3⟩
              · rename_i g4
                split at h
                · rename_i h1
                  obtain ⟨n, ⟨s1, b1⟩, h2⟩ : ∃ n st, rNum 4096 (r, false) = (n, st) := ⟨_, _, rfl⟩
                  simp only [h2] at h
                  obtain ⟨l, st, h3⟩ : ∃ l st, rF (rV d) n ((s1, b1), 0) = (l, st) := ⟨_, _, rfl⟩
                  simp only [h3, Prod.mk.injEq] at h
                  obtain ⟨rfl, rfl⟩ := h
                  cases b1 with
                  | true => rw [rF_broke rfl] at h3; cases h3
                  | false =>
                    obtain ⟨k1, k2, k3, k4⟩ := rF_back ih _ _ _ _ h3
                    subst h1
                    exact ⟨by rw [(rNum_back h2).1, ← hk, k1]; simp [V.kind, V.fields, k2], by simp [rightV, onlyV, V.kind, V.yes, V.num, V.text, V.list, V.fields, k3]; simpa using k4⟩
                · rename_i h5
                  simp only [Prod.mk.injEq] at h
                  obtain ⟨rfl, ⟨rfl, _⟩, _⟩ := h
                  have : K = 0 := by omega
                  subst this
                  exact ⟨by rw [← hk]; simp [V.kind], by simp [rightV, onlyV, rises, V.kind, V.yes, V.num, V.text, V.list, V.fields]⟩
end Go.AV.Val
namespace Go.AV.Val
open Go.AV.Ord Go.AV.Oct
inductive WfV : V → Prop
  | mk (k : Int) (y : Bool) (n : Int) (t : List UInt8) (l : List V) (fs : List F) (hk : i64 k) (hn : i64 n) (hl : ∀ x ∈ l, WfV x) (hf : ∀ f ∈ fs, WfV f.val) : WfV (.mk k y n t l fs)
theorem WfV.k {v : V} (h : WfV v) : i64 v.kind := by cases h; assumption
theorem WfV.n {v : V} (h : WfV v) : i64 v.num := by cases h; assumption
theorem WfV.l {v : V} (h : WfV v) : ∀ x ∈ v.list, WfV x := by cases h; assumption
theorem WfV.f {v : V} (h : WfV v) : ∀ f ∈ v.fields, WfV f.val := by cases h; assumption
theorem rL_fwd {f : DS → V × DS} {l : List V} {r : List UInt8} (hf : ∀ x ∈ l, ∀ r, f ((encV x ++ r, false), 0) = (x, ((r, false), 0))) : ∀ k, k ≤ l.length → rL f k ((l.flatMap encV ++ r, false), 0) = (l.take k, (((l.drop k).flatMap encV ++ r, false), 0))
  | 0, _ => rfl
  | k + 1, h => by
    have ih := rL_fwd (r := r) hf k (by omega)
    obtain ⟨x, hx⟩ : ∃ x, l[k]? = some x := ⟨_, List.getElem?_eq_getElem (by omega)⟩
    have hd := drop_one hx
    simp only [rL, ih, broke_ok, Bool.false_eq_true, if_false]
    rw [hd, List.flatMap_cons, List.append_assoc, hf x (List.mem_of_getElem? hx), take_snoc hx]
theorem rises_pre : ∀ (b a : List F), rises (a ++ b) = true → rises a = true
  | [], a, h => by simpa using h
  | x :: b, a, h => by
    have h1 := rises_pre b (a ++ [x]) (by simpa using h)
    rw [rises_snoc] at h1
    simp at h1
    exact h1.1
theorem rises_at {l : List F} (h : rises l = true) {k : Nat} {x : F} (hx : l[k]? = some x) : notBelow (l.take k) x.name = false := by
  have h1 : rises (l.take (k + 1)) = true := rises_pre (l.drop (k + 1)) _ (by rw [List.take_append_drop]; exact h)
  rw [take_snoc hx, rises_snoc] at h1
  simpa using (by simpa using h1 : rises (l.take k) = true ∧ notBelow (l.take k) x.name = false).2
theorem rF_fwd {f : DS → V × DS} {l : List F} {r : List UInt8} (hl : rises l = true) (hn : ∀ x ∈ l, x.name.length ≤ 4096) (hf : ∀ x ∈ l, ∀ r, f ((encV x.val ++ r, false), 0) = (x.val, ((r, false), 0))) : ∀ k, k ≤ l.length → rF f k ((l.flatMap fieldB ++ r, false), 0) = (l.take k, (((l.drop k).flatMap fieldB ++ r, false), 0))
  | 0, _ => rfl
  | k + 1, h => by
    have ih := rF_fwd (r := r) hl hn hf k (by omega)
    obtain ⟨x, hx⟩ : ∃ x, l[k]? = some x := ⟨_, List.getElem?_eq_getElem (by omega)⟩
    have hd := drop_one hx
    have hm := List.mem_of_getElem? hx
    simp only [rF, ih, broke_ok, Bool.false_eq_true, if_false]
    rw [hd, List.flatMap_cons, fieldB, List.append_assoc, List.append_assoc, rText_fwd _ (by decide) (by have := hn x hm; omega)]
    simp only [rises_at hl hx, Bool.false_eq_true, if_false]
    rw [hf x hm, take_snoc hx]
    rw [← F.eta]
theorem encV_pos (v : V) : 1 ≤ (encV v).length := by rw [encV_eq]; simp
theorem flat_ge {α : Type} (g : α → List UInt8) (h : ∀ x, 1 ≤ (g x).length) : ∀ l : List α, l.length ≤ (l.flatMap g).length
  | [] => by simp
  | x :: l => by
    have := flat_ge g h l
    have := h x
    simp only [List.flatMap_cons, List.length_append, List.length_cons]; omega
theorem flat_mem {α : Type} (g : α → List UInt8) : ∀ (l : List α) (x : α), x ∈ l → (g x).length ≤ (l.flatMap g).length
  | y :: l, x, h => by
    simp only [List.flatMap_cons, List.length_append]
    rcases List.mem_cons.1 h with rfl | h
    · omega
    · have := flat_mem g l x h; omega
theorem fieldB_pos (f : F) : 1 ≤ (fieldB f).length := by unfold fieldB; have := encV_pos f.val; simp; omega
theorem rInt_fwd {n : Int} (hn : i64 n) (r : List UInt8) : rInt (intB n ++ r, false) = (n, (r, false)) := by
  have hz : zigN n < 18446744073709551616 := zig_lt (by unfold i64 at hn; omega) (by unfold i64 at hn; omega)
  unfold rInt intB
  rw [List.append_assoc, rNum_fwd _ (szN_4 (by omega)) (by omega)]
  simp only []
  rw [rNum_fwd _ (szN_4 (by omega)) (by omega)]
  simp only []
  rw [show zigN n / 4294967296 * 4294967296 + zigN n % 4294967296 = zigN n by omega, unzig_zig]
theorem rV_fwd : ∀ (d : Nat) (v : V) (r : List UInt8), rightV d v = true → WfV v → (encV v).length ≤ 4096 → rV d ((encV v ++ r, false), 0) = (v, ((r, false), 0))
  | 0, _, _, h, _, _ => by simp [rightV] at h
  | d + 1, v, r, h, hw, hl => by
    obtain ⟨k, y, n, t, l, fs, rfl⟩ : ∃ k y n t l fs, v = .mk k y n t l fs := ⟨_, _, _, _, _, _, v.eta⟩
    have hn := hw.n
    have hwl := hw.l
    have hwf := hw.f
    simp only [rightV, onlyV, V.kind, V.yes, V.num, V.text, V.list, V.fields, Bool.and_eq_true, Bool.or_eq_true, beq_iff_eq, List.isEmpty_iff, List.all_eq_true] at h hn hwl hwf
    obtain ⟨⟨⟨⟨⟨⟨⟨⟨⟨h0, h5⟩, hy⟩, hnn⟩, ht⟩, hll⟩, hff⟩, hr⟩, hfs⟩, hls⟩ := h
    replace h0 : 0 ≤ k := of_decide_eq_true h0
    replace h5 : k ≤ 5 := of_decide_eq_true h5
    have hk : (UInt8.ofNat k.toNat).toNat = k.toNat := ofNat_toNat (by omega)
    have hkk : ((k.toNat : Nat) : Int) = k := by omega
    rw [encV_eq] at hl ⊢
    simp only [V.kind, V.yes, V.num, V.text, V.list, V.fields] at hl ⊢
    simp only [rV, broke_ok, Bool.false_eq_true, if_false, List.cons_append, rKind, hk, hkk, show ¬ 5 < k.toNat by omega]
    by_cases h1 : k = 1
    · subst h1
      obtain rfl := hnn.resolve_left (by decide)
      obtain rfl := ht.resolve_left (by decide)
      obtain rfl := hll.resolve_left (by decide)
      obtain rfl := hff.resolve_left (by decide)
      simp only [rBody, if_true, rFlag_fwd]
    · obtain rfl := hy.resolve_left h1
      by_cases h2 : k = 2
      · subst h2
        obtain rfl := ht.resolve_left (by decide)
        obtain rfl := hll.resolve_left (by decide)
        obtain rfl := hff.resolve_left (by decide)
        simp only [rBody, if_true, rInt_fwd hn, show ¬ (2 : Int) = 1 by decide, if_false]
      · obtain rfl := hnn.resolve_left h2
        by_cases h3 : k = 3
        · subst h3
          obtain rfl := hll.resolve_left (by decide)
          obtain rfl := hff.resolve_left (by decide)
          have htl : t.length ≤ 4096 := by
            have := Sch.textB_ge t
            simp at hl; omega
          simp only [rBody, if_true, rText_fwd (most := 4096) (s := t) r (by decide) (by omega), show ¬ (3 : Int) = 1 by decide, show ¬ (3 : Int) = 2 by decide, if_false]
        · obtain rfl := ht.resolve_left h3
          by_cases h4 : k = 4
          · subst h4
            obtain rfl := hff.resolve_left (by decide)
            simp only [show ¬ (4 : Int) = 1 by decide, show ¬ (4 : Int) = 2 by decide, show ¬ (4 : Int) = 3 by decide, if_true, if_false, List.length_cons, List.length_append] at hl
            have hge := flat_ge encV encV_pos l
            have hmem := flat_mem encV l
            have := rL_fwd (f := rV d) (l := l) (r := r) (fun x hx r => rV_fwd d x r (hls x hx) (hwl x hx) (by have := hmem x hx; omega)) l.length (Nat.le_refl _)
            simp only [rBody, if_true, show ¬ (4 : Int) = 1 by decide, show ¬ (4 : Int) = 2 by decide, show ¬ (4 : Int) = 3 by decide, if_false, List.append_assoc]
            rw [rNum_fwd _ (szN_4 (by omega)) (by omega)]
            simp only [this]
            simp
          · obtain rfl := hll.resolve_left h4
            by_cases h5' : k = 5
            · subst h5'
              simp only [show ¬ (5 : Int) = 1 by decide, show ¬ (5 : Int) = 2 by decide, show ¬ (5 : Int) = 3 by decide, show ¬ (5 : Int) = 4 by decide, if_true, if_false, List.length_cons, List.length_append] at hl
              have hge := flat_ge fieldB fieldB_pos fs
              have hmem := flat_mem fieldB fs
              have hfl : ∀ x ∈ fs, x.name.length ≤ 4096 ∧ (encV x.val).length ≤ 4096 := fun x hx => by
                have h1 := hmem x hx
                have h2 := Sch.textB_ge x.name
                simp only [fieldB, List.length_append] at h1
                omega
              have := rF_fwd (f := rV d) (l := fs) (r := r) hr (fun x hx => (hfl x hx).1) (fun x hx r => rV_fwd d x.val r (hfs x hx) (hwf x hx) (hfl x hx).2) fs.length (Nat.le_refl _)
              simp only [rBody, if_true, show ¬ (5 : Int) = 1 by decide, show ¬ (5 : Int) = 2 by decide, show ¬ (5 : Int) = 3 by decide, show ¬ (5 : Int) = 4 by decide, if_false, List.append_assoc]
              rw [rNum_fwd _ (szN_4 (by omega)) (by omega)]
              simp only [this]
              simp
            · obtain rfl := hff.resolve_left h5'
              simp only [rBody, h1, h2, h3, h4, h5', if_false, List.nil_append]
def okE (e : Int) : Prop := e = 0 ∨ e = 2 ∨ e = 3
theorem rL_err {f : DS → V × DS} (hf : ∀ st, okE st.2 → okE (f st).2.2) : ∀ n st, okE st.2 → okE (rL f n st).2.2
  | 0, _, h => h
  | n + 1, st, h => by
    have ih := rL_err hf n st h
    simp only [rL]
    split
    · exact ih
    · exact hf _ ih
theorem rF_err {f : DS → V × DS} (hf : ∀ st, okE st.2 → okE (f st).2.2) : ∀ n st, okE st.2 → okE (rF f n st).2.2
  | 0, _, h => h
  | n + 1, st, h => by
    have ih := rF_err hf n st h
    simp only [rF]
    split
    · exact ih
    · refine hf _ ?_
      show okE (if _ then _ else _)
      split
      · exact .inr (.inl rfl)
      · exact ih
theorem rKind_err {st : DS} (h : okE st.2) : okE (rKind st).2.2 := by
  unfold rKind
  split
  · exact .inr (.inl rfl)
  · split
    · exact .inr (.inl rfl)
    · exact h
theorem rV_err : ∀ d st, okE st.2 → okE (rV d st).2.2
  | 0, st, h => by
    simp only [rV]
    split
    · exact h
    · exact .inr (.inr rfl)
  | d + 1, st, h => by
    simp only [rV]
    split
    · exact h
    · have hk := rKind_err h
      unfold rBody
      split
      · exact hk
      · split
        · exact hk
        · split
          · exact hk
          · split
            · exact rL_err (rV_err d) _ _ hk
            · split
              · exact rF_err (rV_err d) _ _ hk
              · exact hk
def nestV : Nat → V
  | 0 => .mk 2 false 5 [] [] []
  | n + 1 => .mk 4 false 0 [] [nestV n] []
def nestB : Nat → List UInt8
  | 0 => [2, 0, 1, 10]
  | n + 1 => [4, 1, 1] ++ nestB n
theorem numB_0 : numB 0 = [0] := by simp [numB, szN_zero, be]
theorem numB_1 : numB 1 = [1, 1] := by
  have h : szN 1 = 1 := by rw [szN_pos (by decide)]; simp [szN_zero]
  rw [numB, h]; decide
theorem numB_10 : numB 10 = [1, 10] := by
  have h : szN 10 = 1 := by rw [szN_pos (by decide)]; simp [szN_zero]
  rw [numB, h]; decide
theorem enc_nest : ∀ n, encV (nestV n) = nestB n
  | 0 => by
    rw [encV_eq]
    simp only [nestV, V.kind, V.num, intB]
    rw [show zigN 5 / 4294967296 = 0 by decide, show zigN 5 % 4294967296 = 10 by decide, numB_0, numB_10]
    decide
  | n + 1 => by
    rw [encV_eq]
    simp only [nestV, V.kind, V.list, List.flatMap_cons, List.flatMap_nil, enc_nest n, List.length_cons, List.length_nil, nestB]
    simp [numB_1]
theorem wf_nest : ∀ n, WfV (nestV n)
  | 0 => .mk _ _ _ _ _ _ (by unfold i64; decide) (by unfold i64; decide) (fun x h => by cases h) (fun x h => by cases h)
  | n + 1 => .mk _ _ _ _ _ _ (by unfold i64; decide) (by unfold i64; decide) (fun x h => by rcases List.mem_singleton.1 h with rfl; exact wf_nest n) (fun x h => by cases h)
theorem right_nest : ∀ d n, rightV d (nestV n) = decide (n < d)
  | 0, n => by simp [rightV]
  | d + 1, 0 => by simp [rightV, nestV, onlyV, rises, V.kind, V.yes, V.num, V.text, V.list, V.fields]
  | d + 1, n + 1 => by simp [rightV, nestV, onlyV, rises, V.kind, V.yes, V.num, V.text, V.list, V.fields, right_nest d n]
theorem nest_len : ∀ n, (nestB n).length = 3 * n + 4
  | 0 => rfl
  | n + 1 => by simp [nestB, nest_len n]; omega
theorem rV_deep : ∀ (d n : Nat) (r : List UInt8), d ≤ n → (rV d ((nestB n ++ r, false), 0)).2.2 = 3
  | 0, n, r, _ => by simp [rV, broke]
  | d + 1, 0, _, h => by omega
  | d + 1, n + 1, r, h => by
    have ih := rV_deep d n r (by omega)
    have hn := rNum_fwd (most := 4096) (x := 1) (nestB n ++ r) (szN_4 (by decide)) (by decide)
    rw [numB_1] at hn
    simp only [rV, broke_ok, Bool.false_eq_true, if_false, nestB, List.cons_append, rKind, List.nil_append, show ¬ 5 < (4 : UInt8).toNat by decide]
    simp only [List.cons_append, List.nil_append] at hn
    simp only [rBody, show ((4 : UInt8).toNat : Int) = 4 by decide, if_true, show ¬ (4 : Int) = 1 by decide, show ¬ (4 : Int) = 2 by decide, show ¬ (4 : Int) = 3 by decide, if_false, hn, rL, broke_ok, Bool.false_eq_true]
    exact ih
end Go.AV.Val
namespace Go.AV
def HS.set2 (H : HS) (i : Nat) (b : HB) (j : Nat) (c : HB) : HS := (H.setB i b).setB j c
theorem setB_comm {H : HS} {i j : Nat} {b c : HB} (h : i ≠ j) : (H.setB i b).setB j c = (H.setB j c).setB i b := by
  simp only [HS.setB, HS.mk.injEq, and_true]
  exact List.set_comm _ _ h
section
variable {H Hs : HS} {i j k : Nat} {b b' b0 c c' c0 x : HB}
theorem set2_at1 (h : i ≠ j) (hi : H.blks[i]? = some b0) : (H.set2 i b j c).blks[i]? = some b := by
  unfold HS.set2; rw [setB_ne h]; exact setB_at hi
theorem set2_at2 (h : i ≠ j) (hj : H.blks[j]? = some c0) : (H.set2 i b j c).blks[j]? = some c := by
  unfold HS.set2; exact setB_at (by rw [setB_ne (Ne.symm h)]; exact hj)
theorem set2_ne (hi : k ≠ i) (hj : k ≠ j) : (H.set2 i b j c).blks[k]? = H.blks[k]? := by
  unfold HS.set2; rw [setB_ne hj, setB_ne hi]
theorem set2_set1 (h : i ≠ j) : (H.set2 i b j c).setB i b' = H.set2 i b' j c := by
  unfold HS.set2; rw [← setB_comm h, setB_setB]
theorem set2_set2 : (H.set2 i b j c).setB j c' = H.set2 i b j c' := by
  unfold HS.set2; rw [setB_setB]
theorem set2_again (h : i ≠ j) : (H.set2 i b j c).set2 i b' j c' = H.set2 i b' j c' := by
  show ((H.set2 i b j c).setB i b').setB j c' = _
  rw [set2_set1 h, set2_set2]
theorem set2_nb : (H.set2 i b j c).nb = H.nb := by unfold HS.set2; rw [setB_nb, setB_nb]
theorem Ext.at (h : Ext Hs H) (hi : Hs.blks[i]? = some x) : H.blks[i]? = some x := by
  obtain ⟨l, hl⟩ := h.blks
  rw [hl, List.getElem?_append_left (List.getElem?_eq_some_iff.1 hi).1]; exact hi
theorem Ext.under (h : Ext Hs H) (hi : i < Hs.nb) : Ext (Hs.setB i b) (H.setB i b) := by
  obtain ⟨l, hl⟩ := h.blks
  exact ⟨⟨l, by simp only [HS.setB, hl]; exact List.set_append_left _ _ hi⟩, h.toks, h.maps⟩
theorem Ext.set2 (h : Ext Hs H) (hi : i < Hs.nb) (hj : j < Hs.nb) : Ext (Hs.set2 i b j c) (H.set2 i b j c) := by
  unfold HS.set2
  exact (h.under hi).under (by rw [setB_nb]; exact hj)
theorem Ext.set2' (h : Ext (Hs.set2 i b j c) H) (hne : i ≠ j) (hi : i < Hs.nb) (hj : j < Hs.nb) : Ext (Hs.set2 i b' j c') (H.set2 i b' j c') := by
  have := h.set2 (b := b') (c := c') (by rw [set2_nb]; exact hi) (by rw [set2_nb]; exact hj)
  rwa [set2_again hne] at this
theorem lt_nb (h : H.blks[i]? = some b) : i < H.nb := (List.getElem?_eq_some_iff.1 h).1
end
end Go.AV
namespace Go.AV
theorem Fits.mono {nb nt nb' nt' : Nat} {v : AV} (h : Fits nb nt v) (hb : nb ≤ nb') (ht : nt ≤ nt') : Fits nb' nt' v := by
  induction h with
  | un => exact .un
  | nv => exact .nv
  | d x => exact .d x
  | own0 sz xs => exact .own0 sz xs
  | own i sz xs h => exact .own i sz xs (Nat.lt_of_lt_of_le h ht)
  | elt cs => exact .elt cs
  | ptr id off h => exact .ptr id off (Nat.lt_of_lt_of_le h hb)
  | arr id n cap h => exact .arr id n cap (Nat.lt_of_lt_of_le h hb)
  | sub id off n cap h => exact .sub id off n cap (Nat.lt_of_lt_of_le h hb)
  | agg cs _ ih => exact .agg cs ih
  | tup cs _ ih => exact .tup cs ih
  | fn f fs cs _ _ ih ih' => exact .fn f fs cs ih ih'
  | map id => exact .map id
  | iter id => exact .iter id
theorem Ext.upT {A H : HS} {i n : Nat} (h : Ext A H) (hi : i < A.toks.length) : Ext (A.up (some i) n) (H.up (some i) n) := by
  obtain ⟨⟨l1, h1⟩, ⟨l2, h2⟩, hm⟩ := h
  exact ⟨⟨l1, h1⟩, ⟨l2, by simp only [HS.up, h2]; exact List.set_append_left _ _ hi⟩, hm⟩
structure Wr (Hs : HS) (t : Option Nat) (H : HS) (l : List UInt8) : Prop where
  ext : Ext (upB Hs t l) H
  ok : H.ok (some (Hs.tk t)) l.length
  lt : ∀ m : List UInt8, Hs.tk t < (upB Hs t m).toks.length
section
variable {Hs H : HS} {t : Option Nat} {l m : List UInt8}
theorem Wr.start {n : Nat} (h : Hs.ok t n) (l : List UInt8) : Wr Hs t (upB Hs t l) l := ⟨Ext.refl _, okB _ _ _ h, fun m => by
  cases t with
  | none => simp [upB, HS.up, HS.tk]
  | some i =>
    have := (List.getElem?_eq_some_iff.1 (h i rfl)).1
    simpa [upB, HS.up, HS.tk] using this⟩
theorem Wr.push {e : TypeId} {cs : List AV} (h : Wr Hs t H l) : Wr Hs t (H.push e cs) l := ⟨h.ext.push _ _, h.ok, h.lt⟩
theorem Wr.nb (h : Wr Hs t H l) : Hs.nb ≤ H.nb := by
  have := nb_le h.ext
  simpa [HS.nb, upB, HS.up_blks] using this
theorem Wr.setB {i : Nat} {b : HB} (h : Wr Hs t H l) (hi : Hs.nb ≤ i) : Wr Hs t (H.setB i b) l := ⟨h.ext.setB (by simpa [HS.nb, upB, HS.up_blks] using hi), h.ok, h.lt⟩
theorem Wr.step (h : Wr Hs t H l) (m : List UInt8) : Wr Hs t (upB H (some (Hs.tk t)) m) m := by
  refine ⟨?_, okB H (some (Hs.tk t)) m h.ok, h.lt⟩
  have := h.ext.upT (n := m.length) (h.lt l)
  rwa [show (upB Hs t l).up (some (Hs.tk t)) m.length = upB Hs t m from HS.up_up Hs t _ _] at this
end
end Go.AV
namespace Go.AV
open Go.RowKit
theorem op_cmpstring {P : Program} {E : Operand → AV} {H : HS} {dst : Option Tmp} {ty : TypeId} {pos : String} {after : Array Edge} {gd : Option (Nat × Bool)} {x y : Operand} {f : FuncId} {fn : Func} {ts : Array TypeId} {a b : List UInt8}
    (hfn : P.funcs[f]? = some fn) (hname : (fn.name == "runtime.NumGoroutine") = false) (hb : fn.body.isNone = true) (hn : Extern.findNext fn = none) (he : Extern.find fn = some Extern.BytealgCompare.compare) (hx : E x = .d (S a)) (hy : E y = .d (S b)) :
    OpR P ⟨dst, .call ⟨.value (.func f), #[x, y], ts⟩, ty, pos, after, gd⟩ E H (Ret (.d (I (Lib.compareBytes a b))) H) :=
  opR_pure fun c w ac hm hops => by
    have h1 := hops x (by simp [Op.operands, Call.operands])
    rw [hx] at h1
    have h2 := hops y (by simp [Op.operands, Call.operands])
    rw [hy] at h2
    have e1 := h1.v_eq
    have e2 := h2.v_eq
    refine ⟨.int .i64 (Lib.compareBytes a b), ?_, .d (.v _ rfl)⟩
    have hr := run_callFunc_extern (w := w) hfn hname hb hn he #[ac.eval x, ac.eval y]
    rw [e1, e2, Lib.run_compareString] at hr
    have ef : ac.eval (.func f) = .func (.func f) #[] #[] := rfl
    simp [execOp, resolve, Deferred.ofValue, invoke, ef, e1, e2, hr]
end Go.AV
namespace Go.AV
open Go.RowKit
section
variable {P : Program} {E : Operand → AV} {H : HS} {dst : Option Tmp} {ty : TypeId} {pos : String} {after : Array Edge} {gd : Option (Nat × Bool)}
theorem arr_val {c : Ctx} {x : Value} {id n cap : Nat} (h : Rep c x (.arr id n cap)) : ∃ g, c.blk[id]? = some g ∧ x = .slice (some ⟨g, 0, none⟩) n cap := by
  generalize ha : AV.arr id n cap = v at h
  cases h with
  | arr _ _ _ g hg => cases ha; exact ⟨g, hg, rfl⟩
  | _ => cases ha
theorem sub_val {c : Ctx} {x : Value} {id off n cap : Nat} (h : Rep c x (.sub id off n cap)) : ∃ g, c.blk[id]? = some g ∧ x = .slice (some ⟨g, off, none⟩) n cap := by
  generalize ha : AV.sub id off n cap = v at h
  cases h with
  | sub _ _ _ _ g hg => cases ha; exact ⟨g, hg, rfl⟩
  | _ => cases ha
theorem op_indexArr {x y : Operand} {t e : TypeId} {sz id n cap off : Nat} {k : IntKind} {i : Int} (ht : P.underlying t = some (.slice e)) (hn : (P.info? e).map (·.size) = some sz) (hx : E x = .arr id n cap) (hy : E y = .d (.v (.int k i))) (h0 : 0 ≤ i) (hi : i < n) (ho : i.toNat * sz = off) :
    OpR P ⟨dst, .indexAddr t x y, ty, pos, after, gd⟩ E H (Ret (.ptr id off) H) :=
  opR_pure fun c w a hm hops => by
    have h1 := hops x (by simp [Op.operands])
    rw [hx] at h1
    have h2 := hops y (by simp [Op.operands])
    rw [hy] at h2
    obtain ⟨g, hg, e1⟩ := arr_val h1
    subst ho
    refine ⟨.pointer (some ⟨g, i.toNat * sz, none⟩), ?_, .ptr id _ g hg⟩
    simp [execOp, e1, h2.v_eq, Instr.indexAt, asIntOf, run_underlying ht, h0, hi, run_sizeOf hn, addr_add]
theorem op_sliceArr0 {x z : Operand} {t e : TypeId} {sz id n cap : Nat} {k' : IntKind} {j : Int} {m : Nat} (ht : P.underlying t = some (.slice e)) (hn : (P.info? e).map (·.size) = some sz) (hx : E x = .arr id n cap) (hz : E z = .d (.v (.int k' j))) (h1 : 0 ≤ j) (h2 : j ≤ cap) (hm : j.toNat = m) :
    OpR P ⟨dst, .slice t x none (some z) none, ty, pos, after, gd⟩ E H (Ret (.arr id m cap) H) :=
  opR_pure fun c w a _ hops => by
    have q1 := hops x (by simp [Op.operands])
    rw [hx] at q1
    have q3 := hops z (by simp [Op.operands])
    rw [hz] at q3
    obtain ⟨g, hg, e1⟩ := arr_val q1
    subst hm
    refine ⟨.slice (some ⟨g, 0, none⟩) j.toNat cap, ?_, .arr id _ cap g hg⟩
    have b1 := bound_ok (P := P) (k := k') (y := cap) (code := .sliceAcap) w h1 (by omega)
    have ea : ((⟨g, 0, none⟩ : Addr).add 0) = ⟨g, 0, none⟩ := by simp [addr_add]
    simp [execOp, e1, q3.v_eq, Instr.sliceAt, Instr.slice, Instr.sliceBounds, run_underlying ht, b1, run_sizeOf hn, ea]
theorem op_sliceArr1 {x y : Operand} {t e : TypeId} {sz id n cap : Nat} {k : IntKind} {i : Int} {m off n' cap' : Nat} (ht : P.underlying t = some (.slice e)) (hn : (P.info? e).map (·.size) = some sz) (hx : E x = .arr id n cap) (hy : E y = .d (.v (.int k i))) (h0 : 0 ≤ i) (h2 : i ≤ n) (h3 : i < cap) (hm : i.toNat = m) (ho : m * sz = off) (hn' : n - m = n') (hc' : cap - m = cap') :
    OpR P ⟨dst, .slice t x (some y) none none, ty, pos, after, gd⟩ E H (Ret (.sub id off n' cap') H) :=
  opR_pure fun c w a _ hops => by
    have q1 := hops x (by simp [Op.operands])
    rw [hx] at q1
    have q2 := hops y (by simp [Op.operands])
    rw [hy] at q2
    obtain ⟨g, hg, e1⟩ := arr_val q1
    subst hm ho hn' hc'
    refine ⟨.slice (some ⟨g, i.toNat * sz, none⟩) (n - i.toNat) (cap - i.toNat), ?_, .sub id _ _ _ g hg⟩
    have b2 := bound_ok (P := P) (k := k) (y := n) (code := .sliceB) w h0 (by omega)
    have ea : ((⟨g, 0, none⟩ : Addr).add (i.toNat * sz)) = ⟨g, i.toNat * sz, none⟩ := by simp [addr_add]
    simp [execOp, e1, q2.v_eq, Instr.sliceAt, Instr.slice, Instr.sliceBounds, run_underlying ht, b2, run_sizeOf hn, ea, show ¬ cap = i.toNat by omega]
theorem op_sliceUn {x y : Operand} {t e : TypeId} {sz n : Nat} {us : List AV} {k : IntKind} {i : Int} (ht : P.underlying t = some (.slice e)) (hn : (P.info? e).map (·.size) = some sz) (hx : Arr H e sz (E x) n us) (hy : E y = .d (.v (.int k i))) (h0 : 0 ≤ i) (h2 : i ≤ n) :
    OpR P ⟨dst, .slice t x (some y) none none, ty, pos, after, gd⟩ E H (Ret .un H) :=
  opR_pure fun c w a _ hops => by
    have q1 := hops x (by simp [Op.operands])
    have q2 := hops y (by simp [Op.operands])
    rw [hy] at q2
    have b2 := bound_ok (P := P) (k := k) (y := n) (code := .sliceB) w h0 (by omega)
    cases hE : E x with
    | d dv =>
      rw [hE] at hx q1
      cases hx with
      | nil => exact ⟨.slice none 0 0, by simp [execOp, q1.v_eq, q2.v_eq, Instr.sliceAt, Instr.slice, Instr.sliceBounds, run_underlying ht, b2, run_sizeOf hn], .un _⟩
    | arr id n1 cap =>
      rw [hE] at hx q1
      cases hx with
      | arr =>
        obtain ⟨g, hg, e1⟩ := arr_val q1
        by_cases hc : cap = i.toNat
        · exact ⟨.slice (some ⟨g, 0, none⟩) (n - i.toNat) (cap - i.toNat), by simp [execOp, e1, q2.v_eq, Instr.sliceAt, Instr.slice, Instr.sliceBounds, run_underlying ht, b2, run_sizeOf hn, hc], .un _⟩
        · exact ⟨.slice (some ((⟨g, 0, none⟩ : Addr).add (i.toNat * sz))) (n - i.toNat) (cap - i.toNat), by simp [execOp, e1, q2.v_eq, Instr.sliceAt, Instr.slice, Instr.sliceBounds, run_underlying ht, b2, run_sizeOf hn, hc], .un _⟩
    | _ => rw [hE] at hx; cases hx
theorem op_capArr {x : Operand} {t e : TypeId} {id n cap : Nat} (ht : P.underlying t = some (.slice e)) (hx : E x = .arr id n cap) : OpR P ⟨dst, .call ⟨.builtin .cap, #[x], #[t]⟩, ty, pos, after, gd⟩ E H (Ret (.d (I cap)) H) :=
  opR_pure fun c w a hm hops => by
    have h1 := hops x (by simp [Op.operands, Call.operands])
    rw [hx] at h1
    obtain ⟨g, hg, e1⟩ := arr_val h1
    exact ⟨.int .i64 cap, by simp [execOp, resolve, invoke, builtin, e1, Builtin.cap_, run_underlying ht, goInt], .d (.v _ rfl)⟩
inductive From : AV → Nat → Nat → Nat → Prop
  | arr (id n cap : Nat) : From (.arr id n cap) id 0 n
  | sub (id off n cap : Nat) : From (.sub id off n cap) id off n
theorem From.val {c : Ctx} {x : Value} {v : AV} {id off n : Nat} (h : From v id off n) (hr : Rep c x v) : ∃ g cap, c.blk[id]? = some g ∧ x = .slice (some ⟨g, off, none⟩) n cap := by
  cases h with
  | arr => obtain ⟨g, h1, h2⟩ := arr_val hr; exact ⟨g, _, h1, h2⟩
  | sub => obtain ⟨g, h1, h2⟩ := sub_val hr; exact ⟨g, _, h1, h2⟩
theorem op_copyB {x y : Operand} {t t' e e' : TypeId} {sz id off n cap jd of2 k m : Nat} {b b2 : HB} {vs : List AV} (ht : P.underlying t = some (.slice e)) (_ : P.underlying t' = some (.slice e')) (hs : (P.info? e).map (·.size) = some sz) (hx : E x = .sub id off n cap) (hy : From (E y) jd of2 k) (hm : min k n = m)
    (hb : H.blks[id]? = some b) (hb2 : H.blks[jd]? = some b2) (hv : (b2.cs.drop of2).take (m * sz) = vs) (hl : vs.length = m * sz) (hfit : off + m * sz ≤ b.cs.length) (hone : ∀ v ∈ vs, v.one = true) (hfz : b.frz = false) :
    OpR P ⟨dst, .call ⟨.builtin .copy, #[x, y], #[t, t']⟩, ty, pos, after, gd⟩ E H (Ret (.d (I m)) (H.put id off vs)) :=
  opR_value fun B w0 c w a hI hops => by
    have q1 := hops x (by simp [Op.operands, Call.operands])
    have q2 := hops y (by simp [Op.operands, Call.operands])
    rw [hx] at q1
    obtain ⟨g, hg, e1⟩ := sub_val q1
    obtain ⟨g2, cap2, hg2, e2⟩ := hy.val q2
    obtain ⟨p1, p2, cur, fr, p3, p4, p5, p6⟩ := hI.blk id g b hg hb
    obtain ⟨r1, r2, cur2, fr2, r3, r4, r5, r6⟩ := hI.blk jd g2 b2 hg2 hb2
    have hvl : of2 + m * sz ≤ b2.cs.length ∨ m * sz = 0 := by
      have := congrArg List.length hv
      rw [List.length_take, List.length_drop, hl] at this
      omega
    have r4' : cur2.size = b2.cs.length := r4
    have hul : ((cur2.toList.drop of2).take (m * sz)).length = m * sz := by
      rw [List.length_take, List.length_drop, Array.length_toList]
      omega
    have hrep : ∀ j (hj : j < ((cur2.toList.drop of2).take (m * sz)).length) (hj' : j < vs.length), Rep c ((cur2.toList.drop of2).take (m * sz))[j] vs[j] := by
      intro j hj hj'
      have hjm : j < m * sz := by omega
      have h3 : of2 + j < b2.cs.length := by omega
      have h4 := r6 (of2 + j) h3
      have h5 : vs[j] = b2.cs[of2 + j]'h3 := by simp [← hv]
      have h6 : ((cur2.toList.drop of2).take (m * sz))[j] = cur2.getD (of2 + j) undef := by
        have : of2 + j < cur2.size := by omega
        simp [this]
      rw [h5, h6]; exact h4
    have hfc := firstCells_of (P := P) (w := w) (g := g2) (o := of2) (m := k) (c := cap2) (n := m) (sz := sz) hul (fun j u hu => by
      rw [List.getElem?_take] at hu
      split at hu
      · rw [List.getElem?_drop] at hu
        simp only [World.cell?, r3]
        simpa using hu
      · cases hu) w rfl
    have i1 := hI.putBlk id g off b hg hb ((cur2.toList.drop of2).take (m * sz)) vs (by rw [hul, hl]) hrep (by rw [hl]; exact hfit) cur _ fr p3
    have hst := run_storeCells_fr P g off b.elem fr ((cur2.toList.drop of2).take (m * sz)) 0 cur w p3 (fun o _ => p5 hfz o) (by rw [hul]; have p4' : cur.size = b.cs.length := p4; omega) (fun v hvm => by
      obtain ⟨j, hj, rfl⟩ := List.getElem_of_mem hvm
      have hj' : j < vs.length := by omega
      exact (hrep j hj hj').one (hone _ (List.getElem_mem hj')))
    simp only [Nat.add_zero] at hst
    refine ⟨.int .i64 m, _, c, .d (I m), H.put id off vs, ?_, Le.refl c, .d (.v _ rfl), i1, rfl, rfl⟩
    have hmin : Nat.min k n = m := hm
    simp [execOp, resolve, invoke, builtin, e1, e2, Builtin.copy_, run_underlying ht, Builtin.lenOf, hmin, run_sizeOf hs, hfc, hst, goInt]
end
end Go.AV
namespace Go.AV
open Go.RowKit
theorem Inv.protect {B : Nat} {w0 w : World} {c : Ctx} {H : HS} (h : Inv B w0 c H w) (id g : Nat) (b : HB) (hg : c.blk[id]? = some g) (hb : H.blks[id]? = some b) (nb nt : Nat) (hid : nb ≤ id)
    (hf : ∀ i b, i < nb → H.blks[i]? = some b → ∀ j (hj : j < b.cs.length), Fits nb nt b.cs[j]) (ds : List DV) (hd : b.cs.take ds.length = ds.map .d) (hlen : ds.length ≤ b.cs.length) :
    ∃ us : Nat → Value, Inv B w0 ((c.cut nb nt).prot g ds.length us) (H.cut nb nt) w ∧ MemLe c.mem ((c.cut nb nt).prot g ds.length us).mem ∧ (∀ i, i < ds.length → ((c.cut nb nt).prot g ds.length us).mem g i = some (us i)) ∧ ∀ i (hi : i < ds.length), RepD c.mem (us i) ds[i] := by
  obtain ⟨p1, p2, cur, fr, p3, p4, p5, p6⟩ := h.blk id g b hg hb
  have p4' : cur.size = b.cs.length := p4
  have i1 := h.cut nb nt hf
  refine ⟨fun o => cur.getD o undef, ⟨i1.base, i1.below, fun g' o u hm => ?_, i1.blkLen, fun i g' b' hg' hb' => ?_, i1.blkInj, i1.tokLen, fun i e he => ?_, i1.tokInj, i1.maps.keep (Ctx.prot_le fun o _ => .inl (p2 o)) rfl rfl (.refl _)⟩, fun b' o u hm => ?_, fun i hi => ?_, fun i hi => ?_⟩
  · simp only [Ctx.prot] at hm
    split at hm
    · rename_i hh
      obtain ⟨rfl, ho⟩ := hh
      have : o < cur.size := by omega
      simp only [World.cell?, p3]
      simp at hm
      simp [this] at hm ⊢
      exact hm
    · exact i1.mem g' o u hm
  · have hlt : i < nb := by
      have hg2 : (c.blk.take nb)[i]? = some g' := hg'
      have := (List.getElem?_eq_some_iff.1 hg2).1
      rw [List.length_take] at this
      omega
    have hgi : c.blk[i]? = some g' := by
      have : (c.blk.take nb)[i]? = some g' := hg'
      rwa [List.getElem?_take, if_pos hlt] at this
    have hne : g' ≠ g := fun e => by
      subst e
      have := h.blkInj i id g' hgi hg
      omega
    obtain ⟨h1, h2, cur', fr', h3, h4, h5, h6⟩ := i1.blk i g' b' hg' hb'
    have hle : Le (c.cut nb nt) ((c.cut nb nt).prot g ds.length (fun o => cur.getD o undef)) := Ctx.prot_le fun o _ => .inl (p2 o)
    refine ⟨h1, fun o => ?_, cur', fr', h3, h4, h5, fun j hj => (h6 j hj).mono hle⟩
    simp only [Ctx.prot]
    rw [if_neg (fun hh => hne hh.1)]
    exact h2 o
  · have hei : c.tok[i]? = some e := by
      have : (c.tok.take nt)[i]? = some e := he
      have hlt := (List.getElem?_eq_some_iff.1 this).1
      rwa [List.getElem?_take, if_pos (by simp at hlt; omega)] at this
    obtain ⟨h1, h2, h3, h4, h5, h6⟩ := i1.tok i e he
    have hne : e.g ≠ g := fun hh => (h.tok i e hei).2.2.2.2.1 id (hh ▸ hg)
    refine ⟨h1, h2, h3, fun o ho => ?_, h5, h6⟩
    simp only [Ctx.prot]
    rw [if_neg (fun hh => hne hh.1)]
    exact h4 o ho
  · simp only [Ctx.prot]
    by_cases hh : b' = g ∧ o < ds.length
    · obtain ⟨rfl, _⟩ := hh
      rw [p2 o] at hm; cases hm
    · rw [if_neg hh]; exact hm
  · show (if g = g ∧ i < ds.length then some (cur.getD i undef) else _) = _
    rw [if_pos ⟨rfl, hi⟩]
  · have h3 : i < b.cs.length := by omega
    have h4 := p6 i h3
    have h5 : (.d ds[i] : AV) = b.cs[i]'h3 := by
      have : (ds.map AV.d)[i]? = (b.cs.take ds.length)[i]? := by rw [hd]
      rw [List.getElem?_map, List.getElem?_eq_getElem hi, List.getElem?_take, if_pos hi, List.getElem?_eq_getElem h3] at this
      exact Option.some.inj this
    rw [← h5] at h4
    exact h4.d_inv
inductive Becomes (id n cap sz : Nat) (xs : List DV) : List AV → List DV → Prop
  | nil : Becomes id n cap sz xs [] []
  | d {x : AV} {l : List AV} {m : List DV} (y : DV) (hw : Weak x (.d y)) (h : Becomes id n cap sz xs l m) : Becomes id n cap sz xs (x :: l) (y :: m)
  | arr {l : List AV} {m : List DV} (h : Becomes id n cap sz xs l m) : Becomes id n cap sz xs (.arr id n cap :: l) (.lst sz xs :: m)
theorem Becomes.len {id n cap sz : Nat} {xs : List DV} {l : List AV} {m : List DV} (h : Becomes id n cap sz xs l m) : l.length = m.length := by
  induction h with
  | nil => rfl
  | d _ _ _ ih => simp [ih]
  | arr _ ih => simp [ih]
theorem Becomes.get {id n cap sz : Nat} {xs : List DV} {l : List AV} {m : List DV} (h : Becomes id n cap sz xs l m) {c : Ctx} {mem : Mem} (hm : MemLe c.mem mem) (ha : ∀ y, Rep c y (.arr id n cap) → RepD mem y (.lst sz xs)) :
    ∀ (vs : Nat → Value), (∀ i (hi : i < l.length), Rep c (vs i) l[i]) → ∀ i (hi : i < m.length), RepD mem (vs i) m[i] := by
  induction h with
  | nil => intro vs _ i hi; simp at hi
  | d y hw _ ih =>
    intro vs hv i hi
    cases i with
    | zero => exact (hw c _ (hv 0 (by simp))).d_inv.mono hm
    | succ i => exact ih (fun j => vs (j + 1)) (fun j hj => by have := hv (j + 1) (by simpa using hj); simpa using this) i (by simpa using hi)
  | arr _ ih =>
    intro vs hv i hi
    cases i with
    | zero => exact ha _ (hv 0 (by simp))
    | succ i => exact ih (fun j => vs (j + 1)) (fun j hj => by have := hv (j + 1) (by simpa using hj); simpa using this) i (by simpa using hi)
theorem ACalls.tidyP {P : Program} {f : FuncId} {args : List AV} {H : HS} {m : List DV} (h1 : ∀ d ∈ m, d.one = true)
    (h : ACalls P f args H fun av H' => Ext H H' ∧ ∃ l, av = .agg l ∧ (Weaks l (m.map .d) ∨ ∃ id n cap sz xs b, H.nb ≤ id ∧ H'.blks[id]? = some b ∧ b.cs.take (flat xs).length = (flat xs).map .d ∧ (flat xs).length ≤ b.cs.length ∧ xs.length = n ∧ n ≤ cap ∧ (∀ x ∈ xs, x.cells.length = sz) ∧ (∀ d ∈ flat xs, d.one = true) ∧ Becomes id n cap sz xs l m)) :
    ACalls P f args H (Ret (.d (.agg m)) H) := by
  intro B w0 c w vs hI hs ha
  refine (h B w0 c w vs hI hs ha).mono ?_
  rintro e w' ⟨v, av, H', c', rfl, q1, q2, q3, ⟨⟨l1, h5⟩, ⟨l2, h6⟩, hmm⟩, l, rfl, hl⟩
  have hcut : H'.cut H.blks.length H.toks.length = H := by
    cases H
    simp only [HS.cut, h5, h6, List.take_left, hmm]
  have hfit : ∀ i b, i < H.blks.length → H'.blks[i]? = some b → ∀ j (hj : j < b.cs.length), Fits H.blks.length H.toks.length b.cs[j] := fun i b hi hb j hj => by
    have hb' : H.blks[i]? = some b := by rw [h5, List.getElem?_append_left (by omega)] at hb; exact hb
    have hlt : i < c.blk.length := by rw [hI.blkLen]; exact hi
    obtain ⟨_, _, cur, fr, _, _, _, q⟩ := hI.blk i _ b (List.getElem?_eq_getElem hlt) hb'
    have := (q j hj).fits
    rwa [hI.blkLen, hI.tokLen] at this
  have hblk : ∀ (i g : Nat), c.blk[i]? = some g → (c'.blk.take H.blks.length)[i]? = some g := fun i g hi => by
    have : i < c.blk.length := (List.getElem?_eq_some_iff.1 hi).1
    rw [List.getElem?_take, if_pos (by have := hI.blkLen; omega)]
    exact q1.blk i g hi
  have htok : ∀ (i : Nat) (e : Tok), c.tok[i]? = some e → ∃ e' : Tok, (c'.tok.take H.toks.length)[i]? = some e' ∧ (e' = e ∨ e.mark < e'.mark) := fun i e he => by
    have : i < c.tok.length := (List.getElem?_eq_some_iff.1 he).1
    obtain ⟨e', q1, q2⟩ := q1.tok i e he
    refine ⟨e', ?_, q2⟩
    rw [List.getElem?_take, if_pos (by have := hI.tokLen; omega)]
    exact q1
  have hv : ∃ us : Array Value, v = .agg us ∧ us.size = l.length ∧ ∀ i (hi : i < l.length), Rep c' (us.getD i undef) l[i] := by
    generalize ha : AV.agg l = av at q2
    cases q2 with
    | agg us cs hl hr => cases ha; exact ⟨us, rfl, hl, hr⟩
    | _ => cases ha
  obtain ⟨us, rfl, hul, hur⟩ := hv
  rcases hl with hw | ⟨id, n, cap, sz, xs, b, hid, hb, hd, hlen, hxn, hnc, hsz, hone, hbec⟩
  · have i1 := q3.cut H.blks.length H.toks.length hfit
    rw [hcut] at i1
    refine ⟨.agg us, .d (.agg m), H, c'.cut H.blks.length H.toks.length, rfl, ⟨q1.mem, hblk, htok, q1.maps⟩, .d (.agg us m (by rw [hul, hw.len, List.length_map]) h1 fun i hi => ?_), i1, rfl, rfl⟩
    have := hw.get c' (fun i => us.getD i undef) hur i (by rw [List.length_map]; exact hi)
    rw [List.getElem_map] at this
    exact this.d_inv.mono (fun _ _ _ h => h)
  · have hidl : id < c'.blk.length := by rw [q3.blkLen]; exact (List.getElem?_eq_some_iff.1 hb).1
    obtain ⟨vals, i1, m1, m2, m3⟩ := q3.protect id _ b (List.getElem?_eq_getElem hidl) hb H.blks.length H.toks.length hid hfit (flat xs) hd hlen
    rw [hcut] at i1
    refine ⟨.agg us, .d (.agg m), H, _, rfl, ⟨fun g o u hm => m1 g o u (q1.mem g o u hm), hblk, htok, q1.maps⟩, .d (.agg us m (by rw [hul, hbec.len]) h1 ?_), i1, rfl, rfl⟩
    refine hbec.get (c := c') m1 (fun y hy => ?_) (fun i => us.getD i undef) hur
    obtain ⟨g, hg, rfl⟩ := arr_val hy
    rw [List.getElem?_eq_getElem hidl] at hg
    cases hg
    exact .lst _ 0 n cap sz xs vals hxn hnc hsz hone (fun i hi => by rw [Nat.zero_add]; exact m2 i hi) (fun i hi => (m3 i hi).mono m1)
end Go.AV
namespace Go.AV
open Go.RowKit
section
variable {P : Program} {E : Operand → AV} {H : HS} {dst : Option Tmp} {ty : TypeId} {pos : String} {after : Array Edge} {gd : Option (Nat × Bool)}
theorem op_litB {t e : TypeId} {len sz : Nat} {parts : Array (Nat × Operand)} {z : Value} {ps : List (Nat × List AV)} (ys : List DV) (ht : P.underlying t = some (.slice e)) (hz : (P.info? e).map (fun i => (i.zero, i.size)) = some (some z, sz))
    (hk : parts.toList.all (fun p => (E p.2).known) = true) (hps : parts.toList.map (fun p => (p.1, (E p.2).cells)) = ps) (hcs : fillA (fun i => some (i * sz, sz)) (List.replicate (len * sz) .un) ps = some ((flat ys).map .d))
    (hsm : len * sz ≤ 16777216) : OpR P ⟨dst, .buildSlice t len parts, ty, pos, after, gd⟩ E H (Ret (.arr H.nb len len) (H.push e ((flat ys).map .d))) :=
  opR_value fun B w0 c w a hI hops => by
    obtain ⟨inf, hi1, hi2⟩ := Option.map_eq_some_iff.1 hz
    simp only [Prod.mk.injEq] at hi2
    obtain ⟨hi2, hi3⟩ := hi2
    obtain ⟨q1, q2⟩ := parts_cells (c := c) (a := a) hk hps (fun x hx => hops x (by simpa [Op.operands] using hx))
    have hzv : ∀ w, (zeroValue e).run P w = .ok z w := fun w => by simp [zeroValue, typeInfo, hi1, hi2]
    have hso : ∀ w, (sizeOf e).run P w = .ok sz w := fun w => by simp [sizeOf, typeInfo, hi1, hi3]
    have run : ∀ (zero : Array Value), ((Array.range (len * sz)).map (zero[· % zero.size]!)).size = len * sz → ∃ vs', Instr.fill (fun i => some (i * sz, sz)) ((Array.range (len * sz)).map (zero[· % zero.size]!)) (parts.map fun p => (p.1, a.eval p.2)).toList = some vs' ∧ Cells c vs' ((flat ys).map .d) := by
      intro zero hs
      have hc := cells_un c ((Array.range (len * sz)).map (zero[· % zero.size]!))
      rw [hs] at hc
      obtain ⟨vs', f1, f2⟩ := fill_rep (c := c) ps (evP a parts.toList) _ _ _ hc q1 q2 hcs
      exact ⟨vs', by rw [Array.toList_map]; exact f1, f2⟩
    have hbs : ∃ vs', (Instr.buildSlice t len (parts.map fun p => (p.1, a.eval p.2))).run P w = .ok (.slice (some ⟨w.heap.size, 0, none⟩) len len) (w.alloc (.cells vs' e)) ∧ Cells c vs' ((flat ys).map .d) := by
      unfold Instr.buildSlice
      rw [Sem.run_bind, run_underlying ht]
      simp only [Result.andThen_ok]
      rw [Sem.run_bind, hso]
      simp only [Result.andThen_ok]
      have hsm' : ¬ (len * sz > 2 ^ 24) := by omega
      rw [if_neg hsm']
      by_cases h0 : len * sz = 0
      · rw [if_pos h0]
        obtain ⟨vs', f1, f2⟩ := run #[] (by simp)
        refine ⟨vs', ?_, f2⟩
        simp only [Sem.run_bind, Sem.run_pure, Result.andThen_ok]
        rw [f1]
        simp [newRow]
      · rw [if_neg h0]
        obtain ⟨vs', f1, f2⟩ := run z.cells (by simp)
        refine ⟨vs', ?_, f2⟩
        simp only [Sem.run_bind, Sem.run_pure, Result.andThen_ok, hzv]
        rw [f1]
        simp [newRow]
    obtain ⟨vs', hr, hc⟩ := hbs
    obtain ⟨i1, l1⟩ := hI.allocBlk vs' e ((flat ys).map .d) hc.size (hc.at_)
    refine ⟨_, _, _, _, _, ?_, l1, .arr H.nb len len w.heap.size ?_, i1, rfl, rfl⟩
    · simp [execOp, hr]
    · show (c.blk ++ [w.heap.size])[H.nb]? = _
      have : c.blk.length = H.nb := hI.blkLen
      rw [List.getElem?_append_right (by omega), this]; simp
theorem op_litArr {T : List AV} {t e : TypeId} {len sz : Nat} {parts : Array (Nat × Operand)} {z : Value} {ys : List DV} (ht : P.underlying t = some (.slice e)) (hz : (P.info? e).map (fun i => (i.zero, i.size)) = some (some z, sz)) (hE : Els (evalT T) 0 parts.toList ys) (hl : ys.length = len)
    (hy : ∀ y ∈ ys, y.cells.length = sz) (hsm : len * sz ≤ 16777216) : OpR P ⟨dst, .buildSlice t len parts, ty, pos, after, gd⟩ (evalT T) H (Ret (.arr H.nb len len) (H.push e ((flat ys).map .d))) := by
  have hf := fill_els ys [] hy (by simp)
  simp only [flat, List.flatMap_nil, List.map_nil, List.nil_append, List.length_nil] at hf
  rw [hl] at hf
  exact op_litB ys ht hz hE.known hE.parts hf hsm
theorem op_appendZ {x y : Operand} {t tn e : TypeId} {z : Value} {sz bytes id n cap k : Nat} {kn kq : IntKind} {b : HB} (ht : P.underlying t = some (.slice e)) (htn : P.underlying tn = some (.int kn)) (hi : tInfo P e z sz bytes) (hzs : z.cells.size = sz) (hsz : 0 < sz)
    (hx : E x = .arr id n cap) (hy : E y = .d (.v (.int kq k))) (hk : 0 < k) (hcap : cap < n + k) (hb : H.blks[id]? = some b) (hn : n * sz ≤ b.cs.length) (hbig : (n + k) * bytes ≤ 140737488355328) (hlen : n + k ≤ 140737488355328) :
    OpR P ⟨dst, .call ⟨.builtin .append, #[x, y], #[t, tn]⟩, ty, pos, after, gd⟩ E H (fun av H' => ∃ cap', n + k ≤ cap' ∧ av = .arr H.nb (n + k) cap' ∧ H' = H.push e (b.cs.take (n * sz) ++ List.replicate ((cap' - n) * sz) .un)) :=
  opR_value fun B w0 c w a hI hops => by
    have q1 := hops x (by simp [Op.operands, Call.operands])
    have q2 := hops y (by simp [Op.operands, Call.operands])
    rw [hx] at q1
    rw [hy] at q2
    obtain ⟨g, hg, e1⟩ := arr_val q1
    obtain ⟨p1, p2, cur, fr, p3, p4, p5, p6⟩ := hI.blk id g b hg hb
    have p4' : cur.size = b.cs.length := p4
    obtain ⟨i, h2, h3, h4, h5⟩ := hi.get
    subst h4
    subst h5
    have hcl : cur.toList.length = cur.size := Array.length_toList
    have hul : (cur.toList.take (n * i.size)).length = n * i.size := by rw [List.length_take]; omega
    have hold := firstCells_of (P := P) (w := w) (g := g) (o := 0) (m := n) (c := cap) (n := n) (sz := i.size) hul (fun j u hu => by
      rw [List.getElem?_take] at hu
      split at hu
      · simp only [World.cell?, p3]
        simpa using hu
      · cases hu) w.drew rfl
    have hfit := growslice_fits (need := n + k) (old := cap) (bytes := i.bytes) (by omega) hbig
    have hkb : k * i.bytes ≤ (n + k) * i.bytes := Nat.mul_le_mul_right _ (by omega)
    have hrun := Lib.run_append_grow_zeros w t tn ty e i z kq kn ht htn h2 h3 (some ⟨g, 0, none⟩) n cap (cur.toList.take (n * i.size)) hold k hk hsz hcap (by omega) (by omega) hfit
    have hge := grownCap_ge w (n + k) cap e
    generalize grownCap w (n + k) cap e = ncap at hrun hge
    have hsize : ((cur.toList.take (n * i.size)).toArray ++ Builtin.zeroCells z.cells k ++ Builtin.zeroCells z.cells (ncap - (n + k))).size = (b.cs.take (n * i.size) ++ List.replicate ((ncap - n) * i.size) AV.un).length := by
      simp only [Array.size_append, List.size_toArray, size_zeroCells, hzs, hul, List.length_append, List.length_replicate, List.length_take]
      rw [Nat.min_eq_left hn, Nat.add_assoc, ← Nat.add_mul]
      congr 2
      omega
    obtain ⟨i1, l1⟩ := hI.drew.allocBlk ((cur.toList.take (n * i.size)).toArray ++ Builtin.zeroCells z.cells k ++ Builtin.zeroCells z.cells (ncap - (n + k))) e (b.cs.take (n * i.size) ++ List.replicate ((ncap - n) * i.size) AV.un) hsize (fun j hj => by
      by_cases h1 : j < n * i.size
      · have h1' : j < (b.cs.take (n * i.size)).length := by rw [List.length_take]; omega
        rw [List.getElem_append_left h1', List.getElem_take]
        have h6 : ((cur.toList.take (n * i.size)).toArray ++ Builtin.zeroCells z.cells k ++ Builtin.zeroCells z.cells (ncap - (n + k))).getD j undef = cur.getD j undef := by
          have hj2 : j < cur.size := by omega
          rw [Array.getD_eq_getD_getElem?, Array.getElem?_append_left (by simp only [Array.size_append, List.size_toArray, hul]; omega), Array.getElem?_append_left (by simp only [List.size_toArray, hul]; omega), List.getElem?_toArray, List.getElem?_take, if_pos h1]
          simp [hj2]
        rw [h6]
        exact p6 j (by omega)
      · rw [List.getElem_append_right (by rw [List.length_take]; omega), List.getElem_replicate]
        exact .un _)
    refine ⟨_, _, _, _, _, ?_, l1, .arr H.nb (n + k) ncap w.heap.size ?_, i1, ncap, hge, rfl, rfl⟩
    · simp [execOp, resolve, invoke, builtin, e1, q2.v_eq, hrun]
    · show (c.blk ++ [w.heap.size])[H.nb]? = _
      have : c.blk.length = H.nb := hI.blkLen
      rw [List.getElem?_append_right (by omega), this]; simp
theorem op_overlaps {x y : Operand} {f : FuncId} {fn : Func} {ts : Array TypeId} {t rt e : TypeId} {sz id n cap jd off k cap2 : Nat} {b b2 : HB} (hfn : P.funcs[f]? = some fn) (hname : (fn.name == "runtime.NumGoroutine") = false) (hbd : fn.body.isNone = true) (hnx : Extern.findNext fn = none)
    (he : Extern.find fn = some (Extern.SlicesOverlaps.overlaps #[t, t] #[rt])) (ht : P.underlying t = some (.slice e)) (hs : (P.info? e).map (·.size) = some sz) (hx : E x = .arr id n cap) (hy : E y = .sub jd off k cap2) (hne : id ≠ jd) (hb : H.blks[id]? = some b) (hb2 : H.blks[jd]? = some b2) (hfz : b.frz = false) (hpos : 0 < b2.cs.length) :
    OpR P ⟨dst, .call ⟨.value (.func f), #[x, y], ts⟩, ty, pos, after, gd⟩ E H (Ret (.d (TF false)) H) :=
  opR_value fun B w0 c w a hI hops => by
    have q1 := hops x (by simp [Op.operands, Call.operands])
    have q2 := hops y (by simp [Op.operands, Call.operands])
    rw [hx] at q1
    rw [hy] at q2
    obtain ⟨g, hg, e1⟩ := arr_val q1
    obtain ⟨g2, hg2, e2⟩ := sub_val q2
    obtain ⟨p1, p2, cur, fr, p3, p4, p5, p6⟩ := hI.blk id g b hg hb
    obtain ⟨r1, r2, cur2, fr2, r3, r4, r5, r6⟩ := hI.blk jd g2 b2 hg2 hb2
    have r4' : cur2.size = b2.cs.length := r4
    have hgg : g ≠ g2 := fun h => hne (hI.blkInj id jd g hg (h ▸ hg2))
    have hfr : ∀ o, w.frozen? ⟨g, o, none⟩ = false := fun o => by
      have := p5 hfz o
      obtain ⟨lo, hi⟩ := fr
      simp only [World.frozen?, p3]
      simpa using this
    have hrun := Lib.run_overlaps_apart (P := P) w t rt e ht sz (fun w => run_sizeOf hs w) ⟨g, 0, none⟩ ⟨g2, off, none⟩ n cap k cap2 hgg b.elem b2.elem cur.size cur2.size (by simp [World.shape?, p3]) (by simp [World.shape?, r3]) (by omega) (hfr 0) (hfr cur.size)
    have hr := run_callFunc_extern (w := w) hfn hname hbd hnx he #[a.eval x, a.eval y]
    rw [e1, e2, hrun] at hr
    have ef : a.eval (.func f) = .func (.func f) #[] #[] := rfl
    exact ⟨.bool false, w, c, .d (TF false), H, by simp [execOp, resolve, Deferred.ofValue, invoke, ef, e1, e2, hr], Le.refl c, .d (.v _ rfl), hI, rfl, rfl⟩
end
end Go.AV
namespace Go.AV.Val
open Go.AV.Ord Go.AV.Oct
abbrev VB (t : TypeId) (rid : Nat) (e : Int) : HB := ⟨t, [.ptr rid 0, .d (I e)], false⟩
abbrev vBlk (t : TypeId) (k : Int) (y : Bool) (n : Int) (s : List UInt8) (l f : AV) : HB := ⟨t, [.d (I k), .d (TF y), .d (.v (.int .i64 n)), .d (S s), l, f], false⟩
abbrev vs6 (k : Int) (y : Bool) (n : Int) (s : List UInt8) (l f : AV) : List AV := [.d (I k), .d (TF y), .d (.v (.int .i64 n)), .d (S s), l, f]
def stH (H : HS) (tR tQ : TypeId) (rid q : Nat) (st : DS) : HS := H.set2 rid (RB tR st.1) q (VB tQ rid st.2)
structure Rd (H : HS) (tR tQ : TypeId) (rid q : Nat) (st : DS) : Prop where
  ne : rid ≠ q
  r : H.blks[rid]? = some (RB tR st.1)
  q : H.blks[q]? = some (VB tQ rid st.2)
section
variable {H Hs : HS} {tR tQ tV : TypeId} {rid q : Nat} {st st' : DS} {b b' : HB}
theorem Rd.stH (h : Rd H tR tQ rid q st) (st' : DS) : Rd (Val.stH H tR tQ rid q st') tR tQ rid q st' := ⟨h.ne, set2_at1 h.ne h.r, set2_at2 h.ne h.q⟩
theorem Rd.ext (h : Rd Hs tR tQ rid q st) (hx : Ext (Val.stH Hs tR tQ rid q st') H) : Rd H tR tQ rid q st' := ⟨h.ne, hx.at (h.stH st').r, hx.at (h.stH st').q⟩
theorem Rd.set2 (h : Rd H tR tQ rid q st) (e : Int) : H.setB q (VB tQ rid e) = Val.stH H tR tQ rid q (st.1, e) := by
  unfold Val.stH HS.set2
  rw [setB_self h.r]
structure VS (Hs : HS) (tR tQ tV : TypeId) (rid q : Nat) (H : HS) (b : HB) (st : DS) : Prop where
  rd : Rd H tR tQ rid q st
  lr : rid < Hs.nb
  lq : q < Hs.nb
  e0 : ∃ a b c d e f, H.blks[Hs.nb]? = some ⟨tV, [a, b, c, d, e, f], false⟩
  e1 : H.blks[Hs.nb + 1]? = some b
  ext : Ext (stH Hs tR tQ rid q st) H
theorem VS.of {H' : HS} (h : VS Hs tR tQ tV rid q H b st) (rd : Rd H' tR tQ rid q st') (he : ∀ k, Hs.nb ≤ k → k ≠ Hs.nb + 1 → H'.blks[k]? = H.blks[k]?) (e1 : H'.blks[Hs.nb + 1]? = some b') (ext : Ext (stH Hs tR tQ rid q st') H') : VS Hs tR tQ tV rid q H' b' st' := by
  obtain ⟨_, lr, lq, ⟨x0, x1, x2, x3, x4, x5, e0⟩, _, _⟩ := h
  exact ⟨rd, lr, lq, ⟨x0, x1, x2, x3, x4, x5, by rw [he _ (Nat.le_refl _) (by omega)]; exact e0⟩, e1, ext⟩
theorem VS.to (h : VS Hs tR tQ tV rid q H b st) (st' : DS) : VS Hs tR tQ tV rid q (stH H tR tQ rid q st') b st' := by
  have hl := h.lr
  have hq := h.lq
  have hne : ∀ k, Hs.nb ≤ k → (stH H tR tQ rid q st').blks[k]? = H.blks[k]? := fun k hk => set2_ne (by omega) (by omega)
  exact h.of (h.rd.stH st') (fun k hk _ => hne k hk) (by rw [hne _ (by omega)]; exact h.e1) (h.ext.set2' h.rd.ne hl hq)
theorem VS.set2 (h : VS Hs tR tQ tV rid q H b st) (e : Int) : VS Hs tR tQ tV rid q (H.setB q (VB tQ rid e)) b (st.1, e) := by
  rw [h.rd.set2 e]; exact h.to _
theorem stH_nb : (stH H tR tQ rid q st).nb = H.nb := set2_nb
theorem VS.lt (h : VS Hs tR tQ tV rid q H b st) : Hs.nb + 1 < H.nb := lt_nb h.e1
theorem VS.push {e : TypeId} {cs : List AV} (h : VS Hs tR tQ tV rid q H b st) : VS Hs tR tQ tV rid q (H.push e cs) b st := by
  obtain ⟨rd, lr, lq, ⟨x0, x1, x2, x3, x4, x5, e0⟩, e1, ext⟩ := h
  exact ⟨⟨rd.ne, push_ne rd.r, push_ne rd.q⟩, lr, lq, ⟨x0, x1, x2, x3, x4, x5, push_ne e0⟩, push_ne e1, ext.push _ _⟩
theorem VS.up {t : Option Nat} {n m : Nat} (h : VS Hs tR tQ tV rid q H b st) (hn : NewTok Hs t) (hok : H.ok t m) : VS Hs tR tQ tV rid q (H.up t n) b st := by
  obtain ⟨rd, lr, lq, ⟨x0, x1, x2, x3, x4, x5, e0⟩, e1, ext⟩ := h
  exact ⟨⟨rd.ne, by rw [HS.up_blks]; exact rd.r, by rw [HS.up_blks]; exact rd.q⟩, lr, lq, ⟨x0, x1, x2, x3, x4, x5, by rw [HS.up_blks]; exact e0⟩, by rw [HS.up_blks]; exact e1, (ext.upN hn hok).1⟩
theorem VS.start (h : Rd Hs tR tQ rid q st) {z0 z1 : List AV} {x0 x1 x2 x3 x4 x5 : AV} (hz : z0 = [x0, x1, x2, x3, x4, x5]) (st' : DS) (b : HB) : VS Hs tR tQ tV rid q ((((stH (Hs.push tV z0) tR tQ rid q st').push tV z1)).setB (Hs.nb + 1) b) b st' := by
  subst hz
  have h1 : Rd (Hs.push tV [x0, x1, x2, x3, x4, x5]) tR tQ rid q st := ⟨h.ne, push_ne h.r, push_ne h.q⟩
  have h2 := h1.stH st'
  have h3 : Rd ((stH (Hs.push tV [x0, x1, x2, x3, x4, x5]) tR tQ rid q st').push tV z1) tR tQ rid q st' := ⟨h.ne, push_ne h2.r, push_ne h2.q⟩
  have hl := lt_nb h.r
  have hq := lt_nb h.q
  have n1 : (Hs.push tV [x0, x1, x2, x3, x4, x5]).nb = Hs.nb + 1 := push_nb
  have n2 : (stH (Hs.push tV [x0, x1, x2, x3, x4, x5]) tR tQ rid q st').nb = Hs.nb + 1 := by rw [stH_nb, n1]
  have e0 : (stH (Hs.push tV [x0, x1, x2, x3, x4, x5]) tR tQ rid q st').blks[Hs.nb]? = some ⟨tV, [x0, x1, x2, x3, x4, x5], false⟩ := by
    rw [show (stH (Hs.push tV [x0, x1, x2, x3, x4, x5]) tR tQ rid q st').blks[Hs.nb]? = (Hs.push tV [x0, x1, x2, x3, x4, x5]).blks[Hs.nb]? from set2_ne (by omega) (by omega)]
    exact push_at
  have hx : Ext (stH Hs tR tQ rid q st') ((stH (Hs.push tV [x0, x1, x2, x3, x4, x5]) tR tQ rid q st').push tV z1) := (((Ext.refl Hs).push _ _).set2 hl hq).push _ _
  refine ⟨⟨h.ne, ?_, ?_⟩, hl, hq, ⟨x0, x1, x2, x3, x4, x5, ?_⟩, ?_, hx.setB (by rw [stH_nb]; omega)⟩
  · rw [setB_ne (by omega)]; exact h3.r
  · rw [setB_ne (by omega)]; exact h3.q
  · rw [setB_ne (by omega)]; exact push_ne e0
  · refine setB_at (b := ⟨tV, z1, false⟩) ?_
    have := push_at (H := stH (Hs.push tV [x0, x1, x2, x3, x4, x5]) tR tQ rid q st') (e := tV) (cs := z1)
    rwa [n2] at this
end
structure GL (Hs H : HS) (v : AV) (t : Option Nat) (sz : Nat) (xs : List DV) : Prop where
  app : App v t sz xs
  ok : H.ok t xs.length
  new : NewTok Hs t
theorem GL.toks {Hs H H' : HS} {v : AV} {t : Option Nat} {sz : Nat} {xs : List DV} (h : GL Hs H v t sz xs) (he : H'.toks = H.toks) : GL Hs H' v t sz xs := ⟨h.app, fun i hi => by rw [he]; exact h.ok i hi, h.new⟩
theorem GL.step {Hs H : HS} {v : AV} {t : Option Nat} {sz m : Nat} {xs ys : List DV} {y : DV} (h : GL Hs H v t sz xs) (hx : Ext Hs H ∨ ∃ l, H.toks = Hs.toks ++ l) (hm : m = xs.length + 1) (hy : ys = xs ++ [y]) : GL Hs (H.up t m) (.own (some (H.tk t)) sz (xs ++ [y])) (some (H.tk t)) sz ys := by
  subst hm hy
  refine ⟨.own _ _ _, ?_, ?_⟩
  · have := HS.ok_up H t (xs.length + 1) h.ok
    rw [List.length_append]
    exact this
  · obtain ⟨l, hl⟩ : ∃ l, H.toks = Hs.toks ++ l := by
      rcases hx with hx | hx
      · exact hx.toks
      · exact hx
    intro i hi
    cases t with
    | none => cases hi; simp [HS.tk, hl]
    | some k => cases hi; exact h.new k rfl
theorem GL.nil (Hs H : HS) (sz : Nat) : GL Hs H nilS none sz [] := ⟨.nil sz, HS.ok_none _ _, NewTok.none _⟩
theorem vC_one (v : V) : ∀ d ∈ vC v, d.one = true := by rw [vC_eq]; simp [DV.one, S, I, TF]
theorem vC_len (v : V) : (vC v).length = 6 := by rw [vC_eq]; rfl
theorem fC_one (f : F) : ∀ d ∈ fC f, d.one = true := by
  rw [fC_eq]
  intro d hd
  rcases List.mem_cons.1 hd with rfl | hd
  · rfl
  · exact vC_one _ _ hd
theorem fC_len (f : F) : (fC f).length = 7 := by rw [fC_eq, List.length_cons, vC_len]
theorem fD_cells (f : F) : (fD f).cells = S f.name :: vC f.val := fC_eq f
theorem vD_cells (v : V) : (vD v).cells = [I v.kind, TF v.yes, .v (.int .i64 v.num), S v.text, .lst 6 (v.list.map vD), .lst 7 (v.fields.map fD)] := vC_eq v
theorem weaks_refl : ∀ l : List AV, Weaks l l
  | [] => .nil
  | _ :: l => .cons (Weak.refl _) (weaks_refl l)
abbrev f0 (t : TypeId) (n : List UInt8) : HB := ⟨t, [.d (S n), .d (I 0), .d (TF false), .d (.v (.int .i64 0)), .d (S []), nilS, nilS], false⟩
abbrev f1 (t : TypeId) (f : F) : HB := ⟨t, (fC f).map .d, false⟩
section
variable {P : Program} {E : Operand → AV} {H : HS} {dst : Option Tmp} {ty : TypeId} {pos : String} {after : Array Edge} {gd : Option (Nat × Bool)}
theorem op_storeV {x y : Operand} {t : TypeId} {id off : Nat} {b b' : HB} (v : V) (hn : (P.info? t).map (·.size) = some 6) (hx : E x = .ptr id off) (hb : H.blks[id]? = some b) (hy : E y = .d (.agg (vC v))) (hfit : off + 6 ≤ b.cs.length) (hfz : b.frz = false)
    (hb' : (⟨b.elem, putL b.cs off ((vC v).map .d), b.frz⟩ : HB) = b') : OpR P ⟨dst, .store t x y, ty, pos, after, gd⟩ E H (Ret .un (H.setB id b')) :=
  op_storeB (vs := (vC v).map .d) hn hx hb (by rw [hy]; intro h; cases h) (by rw [hy]; rfl) (by rw [List.length_map, vC_len]) hfit (by
    intro w hw
    obtain ⟨d, hd, rfl⟩ := List.mem_map.1 hw
    exact vC_one v d hd) hfz hb' rfl
theorem op_storeF {x y : Operand} {t : TypeId} {id off : Nat} {b b' : HB} (f : F) (hn : (P.info? t).map (·.size) = some 7) (hx : E x = .ptr id off) (hb : H.blks[id]? = some b) (hy : E y = .d (.agg (fC f))) (hfit : off + 7 ≤ b.cs.length) (hfz : b.frz = false)
    (hb' : (⟨b.elem, putL b.cs off ((fC f).map .d), b.frz⟩ : HB) = b') : OpR P ⟨dst, .store t x y, ty, pos, after, gd⟩ E H (Ret .un (H.setB id b')) :=
  op_storeB (vs := (fC f).map .d) hn hx hb (by rw [hy]; intro h; cases h) (by rw [hy]; rfl) (by rw [List.length_map, fC_len]) hfit (by
    intro w hw
    obtain ⟨d, hd, rfl⟩ := List.mem_map.1 hw
    exact fC_one f d hd) hfz hb' rfl
theorem op_loadF {x : Operand} {t : TypeId} {d : TypeDesc} {id : Nat} (tF : TypeId) (f : F) (ht : P.underlying t = some d) (hd : notAgg d = false) (hn : (P.info? t).map (·.size) = some 7) (hx : E x = .ptr id 0) (hb : H.blks[id]? = some (f1 tF f)) :
    OpR P ⟨dst, .load t x, ty, pos, after, gd⟩ E H (Ret (.d (.agg (fC f))) H) :=
  op_load_ptrsD (fC f) ht hd hn hx hb (by show 0 + 7 ≤ ((fC f).map AV.d).length; rw [List.length_map, fC_len]; exact Nat.le_refl _) (by
    show (((fC f).map AV.d).drop 0).take 7 = _
    rw [List.drop_zero, List.take_of_length_le (by rw [List.length_map, fC_len]; exact Nat.le_refl _)]) (fC_one f)
end
theorem rL_len (f : DS → V × DS) : ∀ (k : Nat) (st : DS), (rL f k st).1.length ≤ k
  | 0, _ => Nat.le_refl _
  | k + 1, st => by
    have ih := rL_len f k st
    simp only [rL]
    split
    · omega
    · simp; omega
theorem rL_stay {f : DS → V × DS} {k : Nat} {st : DS} (h : broke (rL f k st).2 = true) : ∀ m, k ≤ m → rL f m st = rL f k st
  | 0, hm => by have : k = 0 := by omega
                subst this; rfl
  | m + 1, hm => by
    rcases Nat.lt_or_ge m k with hlt | hge
    · have : k = m + 1 := by omega
      subst this; rfl
    · have ih := rL_stay h m hge
      simp only [rL, ih, h, if_true]
theorem rF_len (f : DS → V × DS) : ∀ (k : Nat) (st : DS), (rF f k st).1.length ≤ k
  | 0, _ => Nat.le_refl _
  | k + 1, st => by
    have ih := rF_len f k st
    simp only [rF]
    split
    · omega
    · simp; omega
theorem rF_full (f : DS → V × DS) : ∀ (k : Nat) (st : DS), broke (rF f k st).2 = false → (rF f k st).1.length = k
  | 0, _, _ => rfl
  | k + 1, st, h => by
    simp only [rF] at h ⊢
    split at h
    · rename_i hb; rw [hb] at h; cases h
    · rename_i hb
      rw [if_neg hb]
      simp [rF_full f k st (by simpa using hb)]
theorem rF_stay {f : DS → V × DS} {k : Nat} {st : DS} (h : broke (rF f k st).2 = true) : ∀ m, k ≤ m → rF f m st = rF f k st
  | 0, hm => by have : k = 0 := by omega
                subst this; rfl
  | m + 1, hm => by
    rcases Nat.lt_or_ge m k with hlt | hge
    · have : k = m + 1 := by omega
      subst this; rfl
    · have ih := rF_stay h m hge
      simp only [rF, ih, h, if_true]
end Go.AV.Val
namespace Go.AV.Val
open Go.AV.Ord Go.AV.Oct
section
variable {H Hs : HS} {tR tQ tV : TypeId} {rid q : Nat} {st st' : DS}
theorem Rd.push {e : TypeId} {cs : List AV} (h : Rd H tR tQ rid q st) : Rd (H.push e cs) tR tQ rid q st := ⟨h.ne, push_ne h.r, push_ne h.q⟩
theorem Ext.stH (h : Ext Hs H) (h1 : Hs.nb ≤ rid) (h2 : Hs.nb ≤ q) : Ext Hs (Val.stH H tR tQ rid q st) := (h.setB h1).setB h2
end
end Go.AV.Val
namespace Go.AV.Val
end Go.AV.Val
namespace Go.AV.Val
end Go.AV.Val
namespace Go.AV.Val
open Go.AV.Ord Go.AV.Oct
theorem shr1 (x : Nat) : (x : Int).fdiv (2 ^ (min (1 : Int).toNat IntKind.u64.bits)) = ((x / 2 : Nat) : Int) := by
  have e : (2 : Int) ^ (min (1 : Int).toNat IntKind.u64.bits) = 2 := by decide
  rw [e, Int.fdiv_eq_ediv_of_nonneg _ (by decide)]
  omega
end Go.AV.Val
namespace Go.AV.Val
open Go.AV.Ord Go.AV.Oct
abbrev v6D (k : Int) (y : Bool) (i : Int) (tx : List UInt8) (ls : List V) (fs : List F) : List DV := [I k, TF y, .v (.int .i64 i), S tx, .lst 6 (ls.map vD), .lst 7 (fs.map fD)]
theorem v6D_eq (k : Int) (y : Bool) (i : Int) (tx : List UInt8) (ls : List V) (fs : List F) : vC (.mk k y i tx ls fs) = v6D k y i tx ls fs := vC_eq _
theorem fD_cells7 (f : F) : (fD f).cells = [S f.name, I f.val.kind, TF f.val.yes, .v (.int .i64 f.val.num), S f.val.text, .lst 6 (f.val.list.map vD), .lst 7 (f.val.fields.map fD)] := by
  rw [fD_cells, vC_eq]
theorem fC7 (f : F) : [S f.name, I f.val.kind, TF f.val.yes, .v (.int .i64 f.val.num), S f.val.text, .lst 6 (f.val.list.map vD), .lst 7 (f.val.fields.map fD)] = fC f := (fD_cells7 f).symm
theorem fields_small {y : Bool} {i : Int} {tx : List UInt8} {ls : List V} {fs : List F} : fs.length + 2 ≤ (encV (.mk 5 y i tx ls fs)).length := by
  have := flat_ge fieldB fieldB_pos fs
  rw [encV_eq (.mk 5 y i tx ls fs)]
  simp only [if_true, show ¬ (5 : Int) = 1 by decide, show ¬ (5 : Int) = 2 by decide, show ¬ (5 : Int) = 3 by decide, if_false, show ¬ (5 : Int) = 4 by decide, List.length_append, List.length_cons, numB, V.kind, V.fields]
  omega
def only2 (k : Int) (y : Bool) : Bool := if k = 1 then y else false
def only3 (k : Int) (i : Int) : Int := if k = 2 then i else 0
def only4 (k : Int) (tx : List UInt8) : List UInt8 := if k = 3 then tx else []
def wrongV (D : Nat) (k : Int) (y : Bool) (i : Int) (tx : List UInt8) (ls : List V) (fs : List F) : Bool :=
  (y != only2 k y) || (i != only3 k i) || (!(tx == only4 k tx)) || ((k != 4) && decide (0 < (ls.length : Int))) || ((k != 5) && decide (0 < (fs.length : Int))) || decide ((D : Int) < 1)
theorem len_pos {α : Type} (l : List α) : (!(l.isEmpty)) = decide (0 < (l.length : Int)) := by
  cases l with
  | nil => rfl
  | cons a l => simp
theorem wrong_only {D : Nat} {k : Int} {y : Bool} {i : Int} {tx : List UInt8} {ls : List V} {fs : List F} (h0 : 0 ≤ k) (h5 : k ≤ 5) : wrongV D k y i tx ls fs = !(onlyV (.mk k y i tx ls fs) && decide (1 ≤ D)) := by
  have e1 : (y != only2 k y) = !((k == 1) || y == false) := by unfold only2; by_cases h : k = 1 <;> simp [h]
  have e2 : (i != only3 k i) = !((k == 2) || i == 0) := by unfold only3; by_cases h : k = 2 <;> simp [h, bne]
  have e3 : (!(tx == only4 k tx)) = !((k == 3) || tx == []) := by unfold only4; by_cases h : k = 3 <;> simp [h]
  have e4 : decide ((D : Int) < 1) = !decide (1 ≤ D) := by rw [Bool.eq_iff_iff]; simp; omega
  simp only [wrongV, e1, e2, e3, e4, ← len_pos]
  simp only [onlyV, V.kind, V.yes, V.num, V.text, V.list, V.fields, h0, h5, decide_true, Bool.true_and, bne, Bool.not_and, Bool.not_or]
theorem right_wrong {D : Nat} {k : Int} {y : Bool} {i : Int} {tx : List UInt8} {ls : List V} {fs : List F} (h0 : 0 ≤ k) (h5 : k ≤ 5) (h : wrongV D k y i tx ls fs = true) : rightV D (.mk k y i tx ls fs) = false := by
  rw [wrong_only h0 h5] at h
  cases D with
  | zero => rfl
  | succ d =>
    have : onlyV (.mk k y i tx ls fs) = false := by simpa using h
    simp [rightV, this]
theorem right_kind {D : Nat} {k : Int} {y : Bool} {i : Int} {tx : List UInt8} {ls : List V} {fs : List F} (h : k < 0 ∨ 5 < k) : rightV D (.mk k y i tx ls fs) = false := by
  cases D with
  | zero => rfl
  | succ d =>
    have : onlyV (.mk k y i tx ls fs) = false := by
      unfold onlyV
      simp only [V.kind]
      rcases h with h | h
      · simp [show ¬ 0 ≤ k by omega]
      · simp [show ¬ k ≤ 5 by omega]
    simp [rightV, this]
def fieldsOk (d : Nat) (fs : List F) : Bool := rises fs && fs.all (fun f => rightV d f.val)
theorem fieldsOk_pre {d : Nat} {fs : List F} {j : Nat} (h : fieldsOk d (fs.take j) = false) : fieldsOk d fs = false := by
  cases ht : fieldsOk d fs with
  | false => rfl
  | true =>
    simp only [fieldsOk, Bool.and_eq_true, List.all_eq_true] at ht
    have h1 : rises (fs.take j) = true := rises_pre (fs.drop j) _ (by rw [List.take_append_drop]; exact ht.1)
    have h2 : fieldsOk d (fs.take j) = true := by
      simp only [fieldsOk, h1, Bool.true_and, List.all_eq_true]
      exact fun x hx => ht.2 x (List.mem_of_mem_take hx)
    rw [h2] at h; cases h
end Go.AV.Val
namespace Go.AV.Val
open Go.AV.Ord Go.AV.Oct
end Go.AV.Val
namespace Go.AV.Val
open Go.AV.Ord Go.AV.Oct
inductive SmallV : V → Prop
  | mk (k : Int) (y : Bool) (n : Int) (t : List UInt8) (l : List V) (fs : List F) (hl : l.length ≤ 1000000) (hf : fs.length ≤ 1000000) (h1 : ∀ x ∈ l, SmallV x) (h2 : ∀ f ∈ fs, SmallV f.val) : SmallV (.mk k y n t l fs)
theorem SmallV.ll {v : V} (h : SmallV v) : v.list.length ≤ 1000000 := by cases h; assumption
theorem SmallV.fl {v : V} (h : SmallV v) : v.fields.length ≤ 1000000 := by cases h; assumption
theorem SmallV.l {v : V} (h : SmallV v) : ∀ x ∈ v.list, SmallV x := by cases h; assumption
theorem SmallV.f {v : V} (h : SmallV v) : ∀ f ∈ v.fields, SmallV f.val := by cases h; assumption
theorem right_only {d : Nat} {v : V} (h : rightV (d + 1) v = true) : onlyV v = true ∧ (∀ f ∈ v.fields, rightV d f.val = true) ∧ (∀ x ∈ v.list, rightV d x = true) ∧ rises v.fields = true := by
  simp only [rightV, Bool.and_eq_true, List.all_eq_true] at h
  exact ⟨h.1.1.1, h.1.2, h.2, h.1.1.2⟩
theorem only_list {v : V} (h : onlyV v = true) : 0 ≤ v.kind ∧ v.kind ≤ 5 ∧ (v.kind ≠ 4 → v.list = []) ∧ (v.kind ≠ 5 → v.fields = []) := by
  unfold onlyV at h
  simp only [Bool.and_eq_true, decide_eq_true_eq, Bool.or_eq_true, beq_iff_eq, List.isEmpty_iff] at h
  obtain ⟨⟨⟨⟨⟨⟨h0, h5⟩, _⟩, _⟩, _⟩, h4⟩, h6⟩ := h
  exact ⟨h0, h5, fun h => h4.resolve_left h, fun h => h6.resolve_left h⟩
theorem small_of : ∀ (d : Nat) (v : V), rightV d v = true → (encV v).length ≤ 1000000 → SmallV v
  | 0, _, h, _ => by simp [rightV] at h
  | d + 1, v, h, hl => by
    obtain ⟨h1, h2, h3, _⟩ := right_only h
    obtain ⟨h0, h5, h4, h6⟩ := only_list h1
    rw [encV_eq] at hl
    have hls : v.list.length ≤ 1000000 ∧ ∀ x ∈ v.list, (encV x).length ≤ 1000000 := by
      by_cases hk : v.kind = 4
      · simp only [hk, show ¬ (4 : Int) = 1 by decide, show ¬ (4 : Int) = 2 by decide, show ¬ (4 : Int) = 3 by decide, if_true, if_false, List.length_cons, List.length_append] at hl
        have hge := flat_ge encV encV_pos v.list
        exact ⟨by omega, fun x hx => by have := flat_mem encV v.list x hx; omega⟩
      · rw [h4 hk]; exact ⟨by simp, fun x hx => by cases hx⟩
    have hfs : v.fields.length ≤ 1000000 ∧ ∀ x ∈ v.fields, (encV x.val).length ≤ 1000000 := by
      by_cases hk : v.kind = 5
      · simp only [hk, show ¬ (5 : Int) = 1 by decide, show ¬ (5 : Int) = 2 by decide, show ¬ (5 : Int) = 3 by decide, show ¬ (5 : Int) = 4 by decide, if_true, if_false, List.length_cons, List.length_append] at hl
        have hge := flat_ge fieldB fieldB_pos v.fields
        exact ⟨by omega, fun x hx => by have := flat_mem fieldB v.fields x hx; simp only [fieldB, List.length_append] at this; omega⟩
      · rw [h6 hk]; exact ⟨by simp, fun x hx => by cases hx⟩
    rw [v.eta]
    exact .mk _ _ _ _ _ _ hls.1 hfs.1 (fun x hx => small_of d x (h3 x hx) (hls.2 x hx)) (fun f hf => small_of d f.val (h2 f hf) (hfs.2 f hf))
end Go.AV.Val
namespace Go.AV.Val
open Go.AV.Ord Go.AV.Oct
def cmpI (a b : Int) : Int := if a < b then -1 else if b < a then 1 else 0
def yesI (b : Bool) : Int := if b then 1 else 0
mutual
def cmpV : V → V → Int
  | .mk k y i t l fs, o => if cmpI k o.kind ≠ 0 then cmpI k o.kind else if k = 1 then cmpI (yesI y) (yesI o.yes) else if k = 2 then cmpI i o.num else if k = 3 then Lib.compareBytes t o.text else if k = 4 then cmpL l o.list else if k = 5 then cmpF fs o.fields else 0
def cmpL : List V → List V → Int
  | [], [] => 0
  | [], _ :: _ => -1
  | _ :: _, [] => 1
  | a :: l, b :: m => if cmpV a b ≠ 0 then cmpV a b else cmpL l m
def cmpF : List F → List F → Int
  | [], [] => 0
  | [], _ :: _ => -1
  | _ :: _, [] => 1
  | .mk n v :: l, g :: m => if (if Lib.compareBytes n g.name ≠ 0 then Lib.compareBytes n g.name else cmpV v g.val) ≠ 0 then (if Lib.compareBytes n g.name ≠ 0 then Lib.compareBytes n g.name else cmpV v g.val) else cmpF l m
end
def orI (a b : Int) : Int := if a ≠ 0 then a else b
def cmpF1 (f g : F) : Int := orI (Lib.compareBytes f.name g.name) (cmpV f.val g.val)
theorem cmpV_mk (k : Int) (y : Bool) (i : Int) (t : List UInt8) (l : List V) (fs : List F) (o : V) : cmpV (.mk k y i t l fs) o = if cmpI k o.kind ≠ 0 then cmpI k o.kind else if k = 1 then cmpI (yesI y) (yesI o.yes) else if k = 2 then cmpI i o.num else if k = 3 then Lib.compareBytes t o.text else if k = 4 then cmpL l o.list else if k = 5 then cmpF fs o.fields else 0 := by rw [cmpV]
theorem cmpL_cons (a b : V) (l m : List V) : cmpL (a :: l) (b :: m) = if cmpV a b ≠ 0 then cmpV a b else cmpL l m := by rw [cmpL]
theorem cmpF_cons (f g : F) (l m : List F) : cmpF (f :: l) (g :: m) = if cmpF1 f g ≠ 0 then cmpF1 f g else cmpF l m := by
  cases f
  rw [cmpF]; rfl
theorem cmpL_nn : cmpL [] [] = 0 := by rw [cmpL]
theorem cmpL_nc (b : V) (m : List V) : cmpL [] (b :: m) = -1 := by rw [cmpL]
theorem cmpL_cn (b : V) (m : List V) : cmpL (b :: m) [] = 1 := by rw [cmpL]
theorem cmpF_nn : cmpF [] [] = 0 := by rw [cmpF]
theorem cmpF_nc (b : F) (m : List F) : cmpF [] (b :: m) = -1 := by rw [cmpF]
theorem cmpF_cn (b : F) (m : List F) : cmpF (b :: m) [] = 1 := by rw [cmpF]
section
variable {xs zs : List V} {fs gs : List F} {k : Nat}
theorem cmpL_step {x z : V} (hx : xs[k]? = some x) (hz : zs[k]? = some z) (h : cmpV x z = 0) : cmpL (xs.drop k) (zs.drop k) = cmpL (xs.drop (k + 1)) (zs.drop (k + 1)) := by
  rw [drop_one hx, drop_one hz, cmpL_cons, h]; rfl
theorem cmpL_at {x z : V} (hx : xs[k]? = some x) (hz : zs[k]? = some z) (h : ¬ cmpV x z = 0) : cmpL (xs.drop k) (zs.drop k) = cmpV x z := by
  rw [drop_one hx, drop_one hz, cmpL_cons, if_pos h]
theorem cmpL_gt {x : V} (hx : xs[k]? = some x) (hz : zs.length ≤ k) : cmpL (xs.drop k) (zs.drop k) = 1 := by
  rw [drop_one hx, List.drop_eq_nil_of_le hz, cmpL_cn]
theorem cmpL_lt {z : V} (hx : xs.length ≤ k) (hz : zs[k]? = some z) : cmpL (xs.drop k) (zs.drop k) = -1 := by
  rw [drop_one hz, List.drop_eq_nil_of_le hx, cmpL_nc]
theorem cmpL_eq (hx : xs.length ≤ k) (hz : zs.length ≤ k) : cmpL (xs.drop k) (zs.drop k) = 0 := by
  rw [List.drop_eq_nil_of_le hz, List.drop_eq_nil_of_le hx, cmpL_nn]
theorem cmpF_step {x z : F} (hx : fs[k]? = some x) (hz : gs[k]? = some z) (h : cmpF1 x z = 0) : cmpF (fs.drop k) (gs.drop k) = cmpF (fs.drop (k + 1)) (gs.drop (k + 1)) := by
  rw [drop_one hx, drop_one hz, cmpF_cons, h]; rfl
theorem cmpF_at {x z : F} (hx : fs[k]? = some x) (hz : gs[k]? = some z) (h : ¬ cmpF1 x z = 0) : cmpF (fs.drop k) (gs.drop k) = cmpF1 x z := by
  rw [drop_one hx, drop_one hz, cmpF_cons, if_pos h]
theorem cmpF_gt {x : F} (hx : fs[k]? = some x) (hz : gs.length ≤ k) : cmpF (fs.drop k) (gs.drop k) = 1 := by
  rw [drop_one hx, List.drop_eq_nil_of_le hz, cmpF_cn]
theorem cmpF_lt {z : F} (hx : fs.length ≤ k) (hz : gs[k]? = some z) : cmpF (fs.drop k) (gs.drop k) = -1 := by
  rw [drop_one hz, List.drop_eq_nil_of_le hx, cmpF_nc]
theorem cmpF_eq (hx : fs.length ≤ k) (hz : gs.length ≤ k) : cmpF (fs.drop k) (gs.drop k) = 0 := by
  rw [List.drop_eq_nil_of_le hz, List.drop_eq_nil_of_le hx, cmpF_nn]
end
def ofInt (n : Int) : V := .mk 2 false n [] [] []
def ofText (s : List UInt8) : V := .mk 3 false 0 s [] []
theorem small_int (n : Int) : SmallV (ofInt n) := .mk _ _ _ _ _ _ (by decide) (by decide) (fun _ h => by cases h) (fun _ h => by cases h)
theorem wf_int {n : Int} (h : i64 n) : WfV (ofInt n) := .mk _ _ _ _ _ _ (by unfold i64; decide) h (fun _ h => by cases h) (fun _ h => by cases h)
theorem right_int (d : Nat) (n : Int) : rightV (d + 1) (ofInt n) = true := by
  simp [rightV, ofInt, onlyV, rises, V.kind, V.yes, V.num, V.text, V.list, V.fields]
theorem cmp_int (a b : Int) : cmpV (ofInt a) (ofInt b) = cmpI a b := by
  unfold ofInt
  rw [cmpV_mk]; rfl
theorem rL_wf {f : DS → V × DS} (hf : ∀ st, WfV (f st).1) : ∀ n st, ∀ x ∈ (rL f n st).1, WfV x
  | 0, _, x, hx => by cases hx
  | n + 1, st, x, hx => by
    simp only [rL] at hx
    split at hx
    · exact rL_wf hf n st x hx
    · rcases List.mem_append.1 hx with h | h
      · exact rL_wf hf n st x h
      · rw [List.mem_singleton.1 h]; exact hf _
theorem rF_wf {f : DS → V × DS} (hf : ∀ st, WfV (f st).1) : ∀ n st, ∀ x ∈ (rF f n st).1, WfV x.val
  | 0, _, x, hx => by cases hx
  | n + 1, st, x, hx => by
    simp only [rF] at hx
    split at hx
    · exact rF_wf hf n st x hx
    · rcases List.mem_append.1 hx with h | h
      · exact rF_wf hf n st x h
      · rw [List.mem_singleton.1 h]; exact hf _
theorem i64_0 : i64 0 := by unfold i64; decide
theorem wf_0 (k : Int) (hk : i64 k) (y : Bool) (t : List UInt8) : WfV (.mk k y 0 t [] []) := .mk _ _ _ _ _ _ hk i64_0 (fun _ h => by cases h) (fun _ h => by cases h)
theorem unzig_i64 {x : Nat} (h : x < 18446744073709551616) : i64 (unzig x) := by
  unfold unzig i64
  split <;> omega
theorem rV_wf : ∀ d st, WfV (rV d st).1
  | 0, st => by
    simp only [rV]
    split <;> exact wf_0 0 i64_0 _ _
  | d + 1, st => by
    simp only [rV]
    split
    · exact wf_0 0 i64_0 _ _
    · have hk : i64 (rKind st).1 := by
        unfold rKind
        split
        · exact i64_0
        · split
          · exact i64_0
          · rename_i c r _ _
            have := c.toNat_lt
            unfold i64; simp only []; omega
      unfold rBody
      split
      · exact wf_0 _ (by unfold i64; decide) _ _
      · split
        · refine .mk _ _ _ _ _ _ (by unfold i64; decide) (unzig_i64 ?_) (fun _ h => by cases h) (fun _ h => by cases h)
          obtain ⟨a, st2, ha⟩ : ∃ a st2, rNum 4294967295 (rKind st).2.1 = (a, st2) := ⟨_, _, rfl⟩
          obtain ⟨b, st3, hb⟩ : ∃ a st3, rNum 4294967295 st2 = (a, st3) := ⟨_, _, rfl⟩
          have h1 := rNum_most ha
          have h2 := rNum_most hb
          simp only [ha, hb]
          omega
        · split
          · exact wf_0 _ (by unfold i64; decide) _ _
          · split
            · exact .mk _ _ _ _ _ _ (by unfold i64; decide) i64_0 (rL_wf (rV_wf d) _ _) (fun _ h => by cases h)
            · split
              · exact .mk _ _ _ _ _ _ (by unfold i64; decide) i64_0 (fun _ h => by cases h) (rF_wf (rV_wf d) _ _)
              · exact wf_0 _ hk _ _
end Go.AV.Val
namespace Go.AV.Val
open Go.AV.Ord Go.AV.Oct
end Go.AV.Val
