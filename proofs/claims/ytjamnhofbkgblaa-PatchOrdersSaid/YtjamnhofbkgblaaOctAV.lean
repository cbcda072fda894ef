/-
  The reader of layer 1 as an exact block.
-/
import Derived.Test.YtjamnhofbkgblaaOctPlain
import Derived.Test.YtjamnhofbkgblaaA13
namespace Go.AV.Oct
open Go.AV.Ord
/-- A reader's block. -/
abbrev RB (t : TypeId) (st : RS) : HB := ⟨t, [.d (S st.1), .d (TF st.2)], false⟩
theorem badN_nil : badN [] = true := rfl
theorem badN_big {c : UInt8} {r : List UInt8} (h : 8 < (c.toNat : Int)) : badN (c :: r) = true := by
  have : 8 < c.toNat := by omega
  simp [badN, this]
theorem badN_short {c : UInt8} {r : List UInt8} (h : (((c :: r).length : Nat) : Int) < 1 + (c.toNat : Int)) : badN (c :: r) = true := by
  have : r.length < c.toNat := by simp at h; omega
  simp [badN, this]
theorem badN_rest {c : UInt8} {r : List UInt8} (h1 : ¬ 8 < (c.toNat : Int)) (h2 : ¬ (((c :: r).length : Nat) : Int) < 1 + (c.toNat : Int)) : badN (c :: r) = (decide (0 < c.toNat) && (r.headD 0 == 0)) := by
  have h3 : ¬ 8 < c.toNat := by omega
  have h4 : ¬ r.length < c.toNat := by simp at h2; omega
  simp [badN, h3, h4]
end Go.AV.Oct
namespace Go.AV.Oct
open Go.AV.Ord
theorem badN_false {c : UInt8} {r : List UInt8} (h : badN (c :: r) = false) : c.toNat ≤ 8 ∧ c.toNat ≤ r.length := by
  simp [badN] at h
  omega
theorem rNum_bad (most : Int) (s : List UInt8) : rNum most (s, true) = (0, (s, true)) := by simp [rNum]
theorem rNum_badN {most : Int} {s : List UInt8} (h : badN s = true) : rNum most (s, false) = (0, ([], true)) := by simp [rNum, h]
theorem rNum_big {most : Int} {c : UInt8} {r : List UInt8} (h : badN (c :: r) = false) (hx : (if 0 > most then 0 else most) < (val (r.take c.toNat) : Int)) : rNum most (c :: r, false) = (0, ([], true)) := by
  have : max most 0 < (val (r.take c.toNat) : Int) := by
    split at hx <;> omega
  simp only [rNum, h]
  simp [this]
theorem rNum_ok {most : Int} {c : UInt8} {r : List UInt8} (h : badN (c :: r) = false) (hx : ¬ (if 0 > most then 0 else most) < (val (r.take c.toNat) : Int)) : rNum most (c :: r, false) = (val (r.take c.toNat), (r.drop c.toNat, false)) := by
  have : ¬ max most 0 < (val (r.take c.toNat) : Int) := by
    split at hx <;> omega
  simp only [rNum, h]
  simp [this, Nat.add_comm 1]
end Go.AV.Oct
namespace Go.AV.Oct
theorem badN_two {c d : UInt8} {r : List UInt8} (h1 : ¬ 8 < (c.toNat : Int)) (h2 : ¬ (((c :: d :: r).length : Nat) : Int) < 1 + (c.toNat : Int)) (h0 : 0 < (c.toNat : Int)) : badN (c :: d :: r) = ((d.toNat : Int) == 0) := by
  rw [badN_rest h1 h2]
  have h3 : 0 < c.toNat := by omega
  rw [Bool.eq_iff_iff]
  simp only [h3, decide_true, Bool.true_and, List.headD_cons, beq_iff_eq]
  constructor
  · intro h; subst h; rfl
  · intro h; apply UInt8.toNat_inj.1; show d.toNat = 0; omega
theorem badN_one {c : UInt8} {r : List UInt8} (h1 : ¬ 8 < (c.toNat : Int)) (h2 : ¬ (((c :: r).length : Nat) : Int) < 1 + (c.toNat : Int)) (h0 : ¬ 0 < (c.toNat : Int)) : badN (c :: r) = false := by
  rw [badN_rest h1 h2]
  have h3 : ¬ 0 < c.toNat := by omega
  simp [h3]
end Go.AV.Oct
namespace Go.AV.Oct
theorem flag_eq {c : UInt8} : (c == 1) = ((c.toNat : Int) == 1) := by
  rw [Bool.eq_iff_iff]
  simp only [beq_iff_eq]
  constructor
  · intro h; subst h; rfl
  · intro h; apply UInt8.toNat_inj.1; show c.toNat = 1; omega
end Go.AV.Oct
namespace Go.AV.Oct
open Go.AV.Ord
theorem shr_at (X : Nat) {k z : Nat} (h : k < z) (hz : z ≤ 8) : ((X : Nat) : Int).fdiv (2 ^ (min ((8 : Int) * ((z : Int) - 1 - (k : Int))).toNat IntKind.u64.bits)) = ((X / 256 ^ (z - 1 - k) : Nat) : Int) := by
  have e := shr_off X (j := 7 - (z - 1 - k)) (by omega)
  have h1 : (7 : Int) - ((7 - (z - 1 - k) : Nat) : Int) = (z : Int) - 1 - (k : Int) := by omega
  have h2 : 7 - (7 - (z - 1 - k)) = z - 1 - k := by omega
  rw [h1, h2] at e
  exact e
theorem shr8 (X : Nat) : ((X : Nat) : Int).fdiv (2 ^ (min (8 : Int).toNat IntKind.u64.bits)) = ((X / 256 : Nat) : Int) := by
  have e := shr_at X (k := 0) (z := 2) (by decide) (by decide)
  simpa using e
theorem numB_take (x : Nat) : (numB x).take 1 = [UInt8.ofNat (szN x)] := by simp [numB]
theorem numB_get {x k : Nat} (h : k < szN x) : (numB x)[k + 1]? = some (UInt8.ofNat (x / 256 ^ (szN x - 1 - k) % 256)) := by
  simp only [numB, List.getElem?_cons_succ]
  exact be_get _ _ _ h
theorem szN_8 {n : Int} (h : n ≤ 9223372036854775807) : szN n.toNat ≤ 8 := by
  refine szN_le 8 _ ?_
  have : n.toNat < 18446744073709551616 := by omega
  simpa using this
theorem numB_mod {n : Nat} (h : szN n ≤ 8) : (UInt8.ofNat (szN n % 256)) = UInt8.ofNat (szN n) := by rw [Nat.mod_eq_of_lt (by omega)]
end Go.AV.Oct
namespace Go.AV
theorem op_appendO {P : Program} {T : List AV} {Hs : HS} {dst : Option Tmp} {ty : TypeId} {pos : String} {after : Array Edge} {gd : Option (Nat × Bool)} {x y : Operand} {t' tx e : TypeId} {t : Option Nat} {w : AV} {ys : List DV} {l m : List UInt8} {k : Nat} (ht : P.underlying t' = some (.slice e)) (hi : tInfo P e (.int .u8 0) 1 1)
    (hx : evalT T x = ownB Hs t l) (hy : evalT T y = w) (hw : Adds P tx w 1 ys) (hys : ys = m.map BY) (hok : Hs.ok t k) (hn : l.length + m.length ≤ 140737488355328) :
    OpR P ⟨dst, .call ⟨.builtin .append, #[x, y], #[t', tx]⟩, ty, pos, after, gd⟩ (evalT T) (upB Hs t l) (Ret (ownB Hs t (l ++ m)) (upB Hs t (l ++ m))) := by
  subst hys hy
  have hv : App (evalT T x) (some (Hs.tk t)) 1 (l.map BY) := by rw [hx]; exact .own _ _ _
  by_cases hm : m = []
  · subst hm
    have h := op_append0 (dst := dst) (ty := ty) (pos := pos) (after := after) (gd := gd) (H := upB Hs t l) ht hi hv.ll hw
    rw [hx] at h
    simpa using h
  · have h0 : 0 < (m.map BY).length := by simpa using List.length_pos_iff.2 hm
    have h := op_append (dst := dst) (ty := ty) (pos := pos) (after := after) (gd := gd) (H := upB Hs t l) ht hi rfl hv hw (by simpa using HS.ok_up Hs t l.length hok) h0 (by simpa using hn) (by simpa using hn)
    have e1 : (AV.own (some ((upB Hs t l).tk (some (Hs.tk t)))) 1 (l.map BY ++ m.map BY)) = ownB Hs t (l ++ m) := by simp [ownB, HS.tk]
    have e2 : (upB Hs t l).up (some (Hs.tk t)) ((l.map BY).length + (m.map BY).length) = upB Hs t (l ++ m) := by
      rw [HS.up_up]; simp [upB]
    rw [e1, e2] at h
    exact h
end Go.AV
namespace Go.AV.Oct
theorem rNum_most {most : Int} {st st' : RS} {n : Nat} (h : rNum most st = (n, st')) : (n : Int) ≤ max most 0 := by
  unfold rNum at h
  split at h
  · cases h; omega
  · split at h
    · cases h; omega
    · simp only [] at h
      split at h
      · cases h; omega
      · rename_i hx
        cases h
        omega
end Go.AV.Oct
