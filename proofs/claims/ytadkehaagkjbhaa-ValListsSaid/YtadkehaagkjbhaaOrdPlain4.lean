/-
  The plain laws of layer 3, part 4: a key taken apart.
-/
import Derived.Test.YtadkehaagkjbhaaOrdPlain3
namespace Go.AV.Ord
open Go.Op
def cutL : List UInt8 → Option (List UInt8 × List UInt8)
  | [] => none
  | c :: r => if c = 0 then match r with
      | [] => none
      | d :: r => if d = 1 then some ([], r) else if d = 255 then (cutL r).map fun p => (0 :: p.1, p.2) else none
    else (cutL r).map fun p => (c :: p.1, p.2)
theorem cutL_ne {c : UInt8} (r : List UInt8) (h : c ≠ 0) : cutL (c :: r) = (cutL r).map fun p => (c :: p.1, p.2) := by
  rw [cutL.eq_def]
  simp only []
  rw [if_neg h]
theorem cutL_0 (d : UInt8) (r : List UInt8) : cutL (0 :: d :: r) = if d = 1 then some ([], r) else if d = 255 then (cutL r).map fun p => (0 :: p.1, p.2) else none := by
  rw [cutL.eq_def]
  simp only [if_true]
theorem cutL_00 : cutL [0] = none := rfl
/-- What was read of a text so far, o, and what is left, r. -/
def cutO (o r : List UInt8) : Option (List UInt8 × List UInt8) := (cutL r).map fun p => (o ++ p.1, p.2)
theorem cutO_nil (k : List UInt8) : cutO [] k = cutL k := by
  unfold cutO
  cases cutL k <;> rfl
theorem cutO_step {o r : List UInt8} {c : UInt8} (h : c ≠ 0) : cutO o (c :: r) = cutO (o ++ [c]) r := by
  unfold cutO
  rw [cutL_ne _ h]
  cases cutL r <;> simp
theorem cutO_zero {o r : List UInt8} : cutO o (0 :: 255 :: r) = cutO (o ++ [0]) r := by
  unfold cutO
  rw [cutL_0, if_neg (by decide), if_pos rfl]
  cases cutL r <;> simp
theorem cutO_end {o r : List UInt8} : cutO o (0 :: 1 :: r) = some (o, r) := by
  unfold cutO
  rw [cutL_0, if_pos rfl]
  simp
theorem cutO_bad {o r : List UInt8} {d : UInt8} (h1 : d ≠ 1) (h2 : d ≠ 255) : cutO o (0 :: d :: r) = none := by
  unfold cutO
  rw [cutL_0]
  simp [h1, h2]
theorem cutO_short {o r : List UInt8} (h : r.length ≤ 1) : cutO o r = none := by
  unfold cutO
  match r, h with
  | [], _ => rfl
  | [c], _ =>
    by_cases hc : c = 0
    · subst hc; rfl
    · rw [cutL_ne _ hc]; rfl
def cut1 (k : List UInt8) : List UInt8 := (cutL k).elim [] Prod.fst
def cut2 (k : List UInt8) : List UInt8 := (cutL k).elim [] Prod.snd
def cutB (k : List UInt8) : Bool := (cutL k).isSome
theorem cut_encT : ∀ (a r : List UInt8), cutL (encT a ++ r) = some (a, r)
  | [], r => rfl
  | c :: a, r => by
    have ih := cut_encT a r
    rw [encT_cons, List.append_assoc]
    unfold enc1
    by_cases hc : c = 0
    · subst hc
      rw [if_pos rfl]
      show cutL (0 :: 255 :: (encT a ++ r)) = _
      rw [cutL_0, if_neg (by decide), if_pos rfl]
      simp [ih]
    · rw [if_neg hc]
      show cutL (c :: (encT a ++ r)) = _
      rw [cutL_ne _ hc]
      simp [ih]
theorem encT_cut : ∀ (n : Nat) (k a r : List UInt8), k.length ≤ n → cutL k = some (a, r) → encT a ++ r = k
  | 0, [], a, r, _, h => by simp [cutL] at h
  | 0, c :: k, a, r, hl, h => by simp at hl
  | n + 1, [], a, r, _, h => by simp [cutL] at h
  | n + 1, c :: k, a, r, hl, h => by
    by_cases hc : c = 0
    · subst hc
      match k, hl, h with
      | [], _, h => simp [cutL_00] at h
      | d :: k, hl, h =>
        rw [cutL_0] at h
        by_cases h1 : d = 1
        · subst h1
          simp at h
          obtain ⟨rfl, rfl⟩ := h
          rfl
        · rw [if_neg h1] at h
          by_cases h2 : d = 255
          · subst h2
            rw [if_pos rfl, Option.map_eq_some_iff] at h
            obtain ⟨⟨a', r'⟩, h3, h4⟩ := h
            cases h4
            rw [encT_cons]
            have := encT_cut n k a' r' (by simp at hl; omega) h3
            simp [enc1, this]
          · rw [if_neg h2] at h
            cases h
    · rw [cutL_ne _ hc, Option.map_eq_some_iff] at h
      obtain ⟨⟨a', r'⟩, h3, h4⟩ := h
      cases h4
      rw [encT_cons]
      have := encT_cut n k a' r' (by simp at hl; omega) h3
      simp [enc1, hc, this]
theorem cutL_iff {k a r : List UInt8} : cutL k = some (a, r) ↔ k = encT a ++ r :=
  ⟨fun h => (encT_cut _ k a r (Nat.le_refl _) h).symm, fun h => h ▸ cut_encT a r⟩
theorem drop_two {α : Type} {l : List α} {i : Nat} {c d : α} (h : l[i]? = some c) (h' : l[i + 1]? = some d) : l.drop i = c :: d :: l.drop (i + 2) := by
  have h1 := (List.getElem?_eq_some_iff.1 h)
  have h2 := (List.getElem?_eq_some_iff.1 h')
  obtain ⟨h1, rfl⟩ := h1
  obtain ⟨h2, rfl⟩ := h2
  rw [List.drop_eq_getElem_cons h1, List.drop_eq_getElem_cons h2]
theorem drop_one {α : Type} {l : List α} {i : Nat} {c : α} (h : l[i]? = some c) : l.drop i = c :: l.drop (i + 1) := by
  obtain ⟨h1, rfl⟩ := List.getElem?_eq_some_iff.1 h
  rw [List.drop_eq_getElem_cons h1]
/-! ### All the texts of a key -/
def partsN : Nat → List UInt8 → Option (List (List UInt8))
  | _, [] => some []
  | 0, _ :: _ => none
  | n + 1, k@(_ :: _) => (cutL k).bind fun p => (partsN n p.2).map (p.1 :: ·)
theorem cutL_len {k a r : List UInt8} (h : cutL k = some (a, r)) : r.length + 2 ≤ k.length := by
  rw [cutL_iff.1 h]
  have := encT_len a
  simp; omega
theorem partsN_fuel : ∀ (n m : Nat) (k : List UInt8), k.length ≤ n → k.length ≤ m → partsN n k = partsN m k
  | n, m, [], _, _ => by cases n <;> cases m <;> rfl
  | 0, _, _ :: _, h, _ => by simp at h
  | _, 0, _ :: _, _, h => by simp at h
  | n + 1, m + 1, c :: k, h, h' => by
    simp only [partsN]
    cases hc : cutL (c :: k) with
    | none => rfl
    | some p =>
      have := cutL_len (a := p.1) (r := p.2) hc
      simp only [Option.bind_some]
      rw [partsN_fuel n m p.2 (by omega) (by omega)]
def partsL (k : List UInt8) : Option (List (List UInt8)) := partsN k.length k
theorem partsL_nil : partsL [] = some [] := rfl
theorem partsL_step {k : List UInt8} (h : k ≠ []) : partsL k = (cutL k).bind fun p => (partsL p.2).map (p.1 :: ·) := by
  unfold partsL
  match k, h with
  | c :: k, _ =>
    simp only [List.length_cons, partsN]
    cases hc : cutL (c :: k) with
    | none => rfl
    | some p =>
      have := cutL_len (a := p.1) (r := p.2) hc
      simp only [Option.bind_some]
      rw [partsN_fuel k.length p.2.length p.2 (by simp at this; omega) (by omega)]
/-- What was read so far, and what is left. -/
def partsO (o : List (List UInt8)) (k : List UInt8) : Option (List (List UInt8)) := (partsL k).map (o ++ ·)
theorem partsO_nil (k : List UInt8) : partsO [] k = partsL k := by
  unfold partsO
  cases partsL k <;> rfl
theorem partsO_end (o : List (List UInt8)) : partsO o [] = some o := by simp [partsO, partsL_nil]
theorem partsO_step {o : List (List UInt8)} {k a r : List UInt8} (h : cutL k = some (a, r)) : partsO o k = partsO (o ++ [a]) r := by
  have hk : k ≠ [] := by intro e; subst e; simp [cutL] at h
  unfold partsO
  rw [partsL_step hk, h]
  simp only [Option.bind_some]
  cases partsL r <;> simp
theorem partsO_bad {o : List (List UInt8)} {k : List UInt8} (hk : k ≠ []) (h : cutL k = none) : partsO o k = none := by
  unfold partsO
  rw [partsL_step hk, h]
  rfl
theorem parts_keyL : ∀ ps : List (List UInt8), partsL (keyL ps) = some ps
  | [] => rfl
  | p :: ps => by
    have hk : keyL (p :: ps) = encT p ++ keyL ps := by simp [keyL]
    have hne : keyL (p :: ps) ≠ [] := by rw [hk]; simp [encT]
    rw [partsL_step hne, hk, cut_encT]
    simp [parts_keyL ps]
theorem keyL_parts : ∀ (n : Nat) (k : List UInt8) (ps : List (List UInt8)), k.length ≤ n → partsL k = some ps → keyL ps = k
  | n, [], ps, _, h => by simp [partsL_nil] at h; subst h; rfl
  | 0, _ :: _, _, h, _ => by simp at h
  | n + 1, c :: k, ps, hl, h => by
    rw [partsL_step (by simp)] at h
    cases hc : cutL (c :: k) with
    | none => rw [hc] at h; cases h
    | some p =>
      rw [hc] at h
      simp only [Option.bind_some, Option.map_eq_some_iff] at h
      obtain ⟨qs, h1, rfl⟩ := h
      have h2 := cutL_len (a := p.1) (r := p.2) hc
      have h3 := keyL_parts n p.2 qs (by simp at hl h2; omega) h1
      have h4 := (cutL_iff (a := p.1) (r := p.2)).1 hc
      rw [h4]
      simp [keyL] at h3 ⊢
      exact h3
end Go.AV.Ord
namespace Go.AV.Ord
def partsA (k : List UInt8) : List (List UInt8) := (partsL k).getD []
def partsE (k : List UInt8) : Int := if (partsL k).isSome then 0 else 2
theorem cut_some {k : List UInt8} (h : cutB k = true) : cutL k = some (cut1 k, cut2 k) := by
  unfold cutB at h
  obtain ⟨p, hp⟩ := Option.isSome_iff_exists.1 h
  simp [cut1, cut2, hp]
theorem cut_none {k : List UInt8} (h : cutB k = false) : cutL k = none := by
  unfold cutB at h
  simpa using h
end Go.AV.Ord
namespace Go.AV.Ord
def sgn (n : Int) : Int := if (if n > -1 then n else -1) < 1 then (if n > -1 then n else -1) else 1
theorem keyL_ne {p : List UInt8} {ps : List (List UInt8)} : keyL (p :: ps) ≠ [] := by simp [keyL, encT]
theorem less_nil (b : List UInt8) : Go.Op.bytesLess b [] = false := by cases b <;> rfl
theorem byL_nil : ∀ b : List (List UInt8), byL (keyL []) (keyL b) = if b = [] then 0 else -1
  | [] => by simp [byL_self]
  | p :: ps => by
    have h : keyL (p :: ps) ≠ [] := keyL_ne
    cases hk : keyL (p :: ps) with
    | nil => exact absurd hk h
    | cons c r => simp [byL, keyL, Go.Op.bytesLess]
theorem nil_byL : ∀ b : List (List UInt8), byL (keyL b) (keyL []) = if b = [] then 0 else 1
  | [] => by simp [byL_self]
  | p :: ps => by
    have h : keyL (p :: ps) ≠ [] := keyL_ne
    cases hk : keyL (p :: ps) with
    | nil => exact absurd hk h
    | cons c r => simp [byL, keyL, Go.Op.bytesLess]
theorem byL_keyL_pre {a b : List (List UInt8)} {k : Nat} (h : a.take k = b.take k) : byL (keyL a) (keyL b) = byL (keyL (a.drop k)) (keyL (b.drop k)) := by
  have e : ∀ l : List (List UInt8), keyL l = keyL (l.take k) ++ keyL (l.drop k) := fun l => by
    simp only [keyL, ← List.flatMap_append, List.take_append_drop]
  rw [e a, e b, h, byL_append]
theorem byL_keyL_end {a b : List (List UInt8)} {k : Nat} (h : a.take k = b.take k) (ha : k ≤ a.length) (hb : k ≤ b.length) (he : k = a.length ∨ k = b.length) : byL (keyL a) (keyL b) = sgn (a.length - b.length) := by
  rw [byL_keyL_pre h]
  rcases he with rfl | rfl
  · rw [List.drop_length, byL_nil]
    by_cases hd : b.drop a.length = []
    · rw [if_pos hd]
      have : b.length ≤ a.length := by simpa using hd
      rw [show (a.length : Int) - b.length = 0 by omega]
      rfl
    · rw [if_neg hd]
      have : ¬ b.length ≤ a.length := by simpa using hd
      unfold sgn
      split <;> split at * <;> omega
  · rw [List.drop_length, nil_byL]
    by_cases hd : a.drop b.length = []
    · rw [if_pos hd]
      have : a.length ≤ b.length := by simpa using hd
      rw [show (a.length : Int) - b.length = 0 by omega]
      rfl
    · rw [if_neg hd]
      have : ¬ a.length ≤ b.length := by simpa using hd
      unfold sgn
      split <;> split at * <;> omega
theorem byL_keyL_at {a b : List (List UInt8)} {k : Nat} {x y : List UInt8} (h : a.take k = b.take k) (hx : a[k]? = some x) (hy : b[k]? = some y) (hne : x ≠ y) : byL (keyL a) (keyL b) = byL x y := by
  rw [byL_keyL_pre h, drop_one hx, drop_one hy]
  simp only [keyL, List.flatMap_cons]
  exact byL_encT hne _ _
theorem byL_zero {x y : List UInt8} (h : byL x y = 0) : x = y := by
  unfold byL at h
  split at h
  · cases h
  · rename_i h1
    split at h
    · cases h
    · rename_i h2
      simpa [h1] using h2
theorem byL_same {x : List UInt8} : byL x x = 0 := byL_self x
theorem partsA_key (a : List (List UInt8)) : partsA (keyL a) = a := by simp [partsA, parts_keyL]
theorem partsE_key (a : List (List UInt8)) : partsE (keyL a) = 0 := by simp [partsE, parts_keyL]
theorem cut_key (p : List UInt8) (ps : List (List UInt8)) (r : List UInt8) : cutL (keyL (p :: ps) ++ r) = some (p, keyL ps ++ r) := by
  have : keyL (p :: ps) ++ r = encT p ++ (keyL ps ++ r) := by simp [keyL]
  rw [this, cut_encT]
end Go.AV.Ord
namespace Go.AV.Ord
theorem keys_short10 {l : List (List UInt8)} (h6 : l.length ≤ 10) (h : ∀ x ∈ l, x.length ≤ 40) : 2 * (l.map List.length).sum + 2 * l.length ≤ 1000 := by
  have := sum_short h
  omega
end Go.AV.Ord
