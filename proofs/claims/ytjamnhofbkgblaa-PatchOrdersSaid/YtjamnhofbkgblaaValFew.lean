/-
  Plain theory of layer 2 (val): values of few parts.
-/
import Derived.Test.YtjamnhofbkgblaaValCmp
namespace Go.AV.Val
open Go.AV.Ord Go.AV.Oct
def fewTop (v : V) : Bool := decide (v.list.length ≤ 8) && decide (v.fields.length ≤ 8) && decide (v.text.length ≤ 200)
/-- Few parts, so deep at most. -/
def fewV : Nat → V → Bool
  | 0, _ => false
  | n + 1, v => fewTop v && v.list.all (fewV n) && v.fields.all fun f => decide (f.name.length ≤ 40) && fewV n f.val
theorem few_parts {n : Nat} {v : V} (h : fewV (n + 1) v = true) : v.list.length ≤ 8 ∧ v.fields.length ≤ 8 ∧ v.text.length ≤ 200 ∧ (∀ x ∈ v.list, fewV n x = true) ∧ (∀ f ∈ v.fields, f.name.length ≤ 40 ∧ fewV n f.val = true) := by
  simp only [fewV, fewTop, Bool.and_eq_true, decide_eq_true_eq, List.all_eq_true] at h
  exact ⟨h.1.1.1.1, h.1.1.1.2, h.1.1.2, h.1.2, h.2⟩
theorem few_small : ∀ (n : Nat) (v : V), fewV n v = true → SmallV v
  | 0, _, h => by simp [fewV] at h
  | n + 1, v, h => by
    obtain ⟨h1, h2, _, h4, h5⟩ := few_parts h
    rw [v.eta]
    exact .mk _ _ _ _ _ _ (by omega) (by omega) (fun x hx => few_small n x (h4 x hx)) (fun f hf => few_small n f.val (h5 f hf).2)
theorem flat_bound {α : Type} (g : α → List UInt8) (b : Nat) : ∀ l : List α, (∀ x ∈ l, (g x).length ≤ b) → (l.flatMap g).length ≤ l.length * b
  | [], _ => by simp
  | x :: l, h => by
    have h1 := flat_bound g b l fun y hy => h y (by simp [hy])
    have h2 := h x (by simp)
    simp only [List.flatMap_cons, List.length_append, List.length_cons, Nat.add_mul, Nat.one_mul]
    omega
theorem numB_small {x : Nat} (h : x ≤ 4294967295) : (numB x).length ≤ 9 := by rw [numB_len]; have := szN_4 h; omega
def fewB : Nat → Nat
  | 0 => 0
  | n + 1 => 8 * fewB n + 700
theorem few_len : ∀ (n : Nat) (v : V), fewV n v = true → WfV v → (encV v).length ≤ fewB n
  | 0, _, h, _ => by simp [fewV] at h
  | n + 1, v, h, hw => by
    obtain ⟨h1, h2, h3, h4, h5⟩ := few_parts h
    have hl := flat_bound encV (fewB n) v.list fun x hx => few_len n x (h4 x hx) (hw.l x hx)
    have hf := flat_bound fieldB (fewB n + 60) v.fields fun f hf => by
      have hh := few_len n f.val (h5 f hf).2 (hw.f f hf)
      have hn := numB_small (x := f.name.length) (by have := (h5 f hf).1; omega)
      have := (h5 f hf).1
      simp only [fieldB, textB, List.length_append]
      omega
    have m1 : v.list.length * fewB n ≤ 8 * fewB n := Nat.mul_le_mul_right _ h1
    have m2 : v.fields.length * (fewB n + 60) ≤ 8 * (fewB n + 60) := Nat.mul_le_mul_right _ h2
    have n1 := numB_small (x := v.list.length) (by omega)
    have n2 := numB_small (x := v.fields.length) (by omega)
    have n3 := numB_small (x := v.text.length) (by omega)
    have hz : zigN v.num < 18446744073709551616 := zig_lt (by have := hw.n; unfold i64 at this; omega) (by have := hw.n; unfold i64 at this; omega)
    have n4 := numB_small (x := zigN v.num / 4294967296) (by omega)
    have n5 := numB_small (x := zigN v.num % 4294967296) (by omega)
    rw [encV_eq]
    simp only [fewB, List.length_cons]
    split
    · simp [flagB]
    · split
      · simp only [intB, List.length_append]; omega
      · split
        · simp only [textB, List.length_append]; omega
        · split
          · simp only [List.length_append]; omega
          · split
            · simp only [List.length_append]; omega
            · simp
theorem few_max {v : V} (h : fewV 7 v = true) (hw : WfV v) : (encV v).length ≤ 1000000000 := by
  have h1 := few_len 7 v h hw
  have h2 : fewB 7 ≤ 1000000000 := by decide
  omega
/-- What each kind has, and nothing else. -/
def valsV (k : Int) (y : Bool) (i : Int) (tx : List UInt8) (ls : List V) (fs : List F) : Bool := (k == 1 || y == false) && (k == 2 || i == 0) && (k == 3 || tx == []) && (k == 4 || ls.isEmpty) && (k == 5 || fs.isEmpty)
theorem only_vals (k : Int) (y : Bool) (i : Int) (tx : List UInt8) (ls : List V) (fs : List F) : onlyV (.mk k y i tx ls fs) = (decide (0 ≤ k) && decide (k ≤ 5) && valsV k y i tx ls fs) := by
  simp only [onlyV, valsV, V.kind, V.yes, V.num, V.text, V.list, V.fields, Bool.and_assoc]
  rfl
theorem right_vals {d : Nat} {k : Int} {y : Bool} {i : Int} {tx : List UInt8} {ls : List V} {fs : List F} (h0 : 0 ≤ k) (h5 : k ≤ 5) (h : valsV k y i tx ls fs = true) : rightV (d + 1) (.mk k y i tx ls fs) = (ls.all (rightV d) && fieldsOk d fs) := by
  have h1 : onlyV (.mk k y i tx ls fs) = true := by rw [only_vals, h]; simp [h0, h5]
  simp only [rightV, h1, Bool.true_and, V.fields, V.list, fieldsOk]
  exact Bool.and_comm _ _
theorem right_novals {D : Nat} {k : Int} {y : Bool} {i : Int} {tx : List UInt8} {ls : List V} {fs : List F} (h : valsV k y i tx ls fs = false) : rightV D (.mk k y i tx ls fs) = false := by
  cases D with
  | zero => rfl
  | succ d =>
    have h1 : onlyV (.mk k y i tx ls fs) = false := by rw [only_vals, h]; simp
    simp only [rightV, h1, Bool.false_and]
theorem all_step {α : Type} {p : α → Bool} {l : List α} {j : Nat} {x : α} (h : l[j]? = some x) (h1 : (l.take j).all p = true) (h2 : p x = true) : (l.take (j + 1)).all p = true := by
  rw [take_snoc h, List.all_append, h1]; simp [h2]
theorem all_bad {α : Type} {p : α → Bool} {l : List α} {j : Nat} {x : α} (h : l[j]? = some x) (h2 : p x = false) : l.all p = false := by
  rw [List.all_eq_false]; exact ⟨x, List.mem_of_getElem? h, by simp [h2]⟩
theorem few_bad1 {n : Nat} {k : Int} {y : Bool} {i : Int} {tx : List UInt8} {ls : List V} {fs : List F} (h : n = 0 ∨ 8 < ls.length ∨ 8 < fs.length ∨ 200 < tx.length) : fewV n (.mk k y i tx ls fs) = false := by
  cases n with
  | zero => rfl
  | succ n =>
    have : fewTop (.mk k y i tx ls fs) = false := by
      show (decide (ls.length ≤ 8) && decide (fs.length ≤ 8) && decide (tx.length ≤ 200)) = false
      rw [Bool.eq_false_iff]
      intro h1
      simp only [Bool.and_eq_true, decide_eq_true_eq] at h1
      omega
    simp [fewV, this]
theorem few_eq {n : Nat} {k : Int} {y : Bool} {i : Int} {tx : List UInt8} {ls : List V} {fs : List F} (h1 : ls.length ≤ 8) (h2 : fs.length ≤ 8) (h3 : tx.length ≤ 200) : fewV (n + 1) (.mk k y i tx ls fs) = (ls.all (fewV n) && fs.all fun f => decide (f.name.length ≤ 40) && fewV n f.val) := by
  simp [fewV, fewTop, V.list, V.fields, V.text, h1, h2, h3]
end Go.AV.Val
