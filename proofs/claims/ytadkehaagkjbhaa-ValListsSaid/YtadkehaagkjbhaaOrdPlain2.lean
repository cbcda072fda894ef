/-
  The plain laws of layer 3, part 2.
-/
import Derived.Test.YtadkehaagkjbhaaOrdPlain
namespace Go.AV.Ord
open Go.Op
theorem byL_encI {a b : Int} (ha : i64 a) (hb : i64 b) : byL (encI a) (encI b) = if a < b then -1 else if b < a then 1 else 0 := by
  by_cases h : a < b
  · rw [if_pos h, byL_lt (encI_less ha hb h)]
  · rw [if_neg h]
    by_cases h2 : b < a
    · rw [if_pos h2, byL_gt (encI_less hb ha h2)]
    · rw [if_neg h2, show a = b by omega, byL_self]
theorem numL_i64 (s : List UInt8) : i64 (numL s).1 := by
  unfold numL
  split
  · exact decI_i64 ‹_›
  · exact ⟨by decide, by decide⟩
theorem numL_back {s : List UInt8} (h : (numL s).2 = true) : encI (numL s).1 = s := by
  unfold numL at h ⊢
  split at h
  · rename_i h8; rw [if_pos h8]; exact encI_decI h8
  · cases h
theorem numL_ok (s : List UInt8) : (numL s).2 = decide (s.length = 8) := by
  unfold numL
  split <;> simp [*]
theorem numL_zero {s : List UInt8} (h : (numL s).2 = false) : (numL s).1 = 0 := by
  unfold numL at h ⊢
  split at h
  · cases h
  · rename_i h8; rw [if_neg h8]
theorem numL_encI {a : Int} (ha : i64 a) : numL (encI a) = (a, true) := by simp [numL, encI_len, decI_encI ha]
/-- The keys of lists, side by side. -/
theorem encT_ne (l : List UInt8) : ∃ c r, encT l = c :: r := by
  cases l with
  | nil => exact ⟨0, [1], rfl⟩
  | cons c l => rw [encT_cons]; unfold enc1; split <;> exact ⟨_, _, rfl⟩
def pref : List (List UInt8) → List (List UInt8) → Bool
  | [], _ => true
  | _ :: _, [] => false
  | a :: as, b :: bs => a == b && pref as bs
theorem begins_encT {a b : List UInt8} {x y : List UInt8} : begins (encT a ++ x) (encT b ++ y) = (a == b && begins x y) := by
  rw [Bool.eq_iff_iff]
  constructor
  · intro h
    obtain ⟨r, hr⟩ := begins_iff.1 h
    rw [List.append_assoc] at hr
    have e := encT_inj hr
    subst e
    rw [List.append_cancel_left hr]
    simp [begins_iff]
  · intro h
    simp only [Bool.and_eq_true, beq_iff_eq] at h
    obtain ⟨rfl, h⟩ := h
    obtain ⟨r, rfl⟩ := begins_iff.1 h
    exact begins_iff.2 ⟨r, by simp⟩
theorem begins_keyL : ∀ (b a : List (List UInt8)), begins (keyL b) (keyL a) = pref a b
  | b, [] => by simp [keyL, begins_nil, pref]
  | [], a :: as => by
    obtain ⟨c, r, h⟩ := encT_ne a
    simp [keyL, h, nil_begins, pref]
  | b :: bs, a :: as => by
    have h := begins_keyL bs as
    simp only [keyL, List.flatMap_cons] at h ⊢
    rw [begins_encT, h, pref]
    by_cases e : b = a
    · subst e; simp
    · rw [beq_eq_false_iff_ne.2 e, beq_eq_false_iff_ne.2 (Ne.symm e)]
theorem aft_some {l : List UInt8} {c : UInt8} (h : c ∈ l) (hc : c ≠ 255) : (aft l).isSome = true := by
  rw [aft_none]
  simp only [Bool.not_eq_true', List.all_eq_false]
  exact ⟨c, h, by simpa using hc⟩
theorem aft_keyL (a : List (List UInt8)) : (aft (keyL a)).isSome = !a.isEmpty := by
  cases a with
  | nil => rfl
  | cons x xs => exact aft_some (c := 1) (by simp [keyL, encT]) (by decide)
theorem aft_begins {p x : List UInt8} (h : aft p = some x) (s : List UInt8) : (begins s p) = ((!bytesLess s p) && bytesLess s x) := by
  rw [Bool.eq_iff_iff]
  constructor
  · intro hb
    obtain ⟨r, rfl⟩ := begins_iff.1 hb
    rw [begins_not_less hb, aft_above h]; rfl
  · intro hb
    simp only [Bool.and_eq_true, Bool.not_eq_true'] at hb
    exact aft_below h hb.1 hb.2
theorem pref_take (a b : List (List UInt8)) (k : Nat) {x y : List UInt8} (hx : a[k]? = some x) (hy : b[k]? = some y) : pref (a.take (k + 1)) b = (pref (a.take k) b && x == y) := by
  induction k generalizing a b with
  | zero =>
    cases a <;> cases b <;> simp_all [pref]
  | succ k ih =>
    cases a with
    | nil => simp at hx
    | cons c as =>
      cases b with
      | nil => simp at hy
      | cons d bs =>
        simp only [List.getElem?_cons_succ] at hx hy
        have := ih as bs hx hy
        simp only [List.take_succ_cons, pref] at this ⊢
        rw [this, Bool.and_assoc]
theorem sum_short : ∀ {l : List (List UInt8)}, (∀ x ∈ l, x.length ≤ 40) → (l.map List.length).sum ≤ 40 * l.length
  | [], _ => by simp
  | x :: l, h => by
    have h1 := h x (by simp)
    have h2 := sum_short (l := l) fun y hy => h y (by simp [hy])
    simp only [List.map_cons, List.sum_cons, List.length_cons]
    omega
theorem keys_short {l : List (List UInt8)} (h6 : l.length ≤ 6) (h : ∀ x ∈ l, x.length ≤ 40) : 2 * (l.map List.length).sum + 2 * l.length ≤ 1000 := by
  have := sum_short h
  omega
theorem pref_len : ∀ {a b : List (List UInt8)}, b.length < a.length → pref a b = false
  | [], _, h => by simp at h
  | _ :: _, [], _ => rfl
  | a :: as, b :: bs, h => by
    have := pref_len (a := as) (b := bs) (by simpa using h)
    simp [pref, this]
theorem pref_none {a b : List (List UInt8)} {k : Nat} (h : pref (a.take k) b = false) : pref a b = false := by
  induction k generalizing a b with
  | zero => simp [pref] at h
  | succ k ih =>
    cases a with
    | nil => simp [pref] at h
    | cons c as =>
      cases b with
      | nil => rfl
      | cons d bs =>
        simp only [List.take_succ_cons, pref] at h ⊢
        cases hc : (c == d) with
        | false => simp
        | true => rw [hc] at h; simpa using ih (by simpa using h)
end Go.AV.Ord
