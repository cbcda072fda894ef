/-
  Plain theory of layer 2 (val): maps of fields, whatever their order.
-/
import Derived.Test.YtjamnhofbkgblaaValLaw
import Derived.Test.YtjamnhofbkgblaaA18
namespace Go.AV.Val
open Go.AV.Ord Go.AV.Oct
/-- A field comes to others: the last one of a name counts. -/
def putF : List F → F → List F
  | [], f => [f]
  | g :: l, f => if Op.bytesLess g.name f.name then g :: putF l f else if g.name == f.name then f :: l else f :: g :: l
def ofF (fs : List F) : List F := fs.foldl putF []
def ofMapV (fs : List F) : V := .mk 5 false 0 [] [] (ofF fs)
/-- How many names are below a name, from the front. -/
def posF : List F → List UInt8 → Nat
  | [], _ => 0
  | g :: l, n => if Op.bytesLess g.name n then posF l n + 1 else 0
def hasF (l : List F) (n : List UInt8) : Bool := match l[posF l n]? with
  | some g => g.name == n
  | none => false
theorem posF_le : ∀ (l : List F) (n : List UInt8), posF l n ≤ l.length
  | [], _ => Nat.le_refl _
  | g :: l, n => by
    have := posF_le l n
    simp only [posF]
    split
    · simp; omega
    · simp
theorem putF_has : ∀ (l : List F) (f : F), hasF l f.name = true → putF l f = l.set (posF l f.name) f
  | [], f, h => by simp [hasF, posF] at h
  | g :: l, f, h => by
    have ih := putF_has l f
    simp only [hasF, posF, putF] at h ih ⊢
    by_cases h1 : Op.bytesLess g.name f.name = true
    · rw [if_pos h1] at h ⊢
      rw [if_pos h1, List.getElem?_cons_succ] at *
      rw [ih h]; rfl
    · rw [if_neg h1] at h ⊢
      rw [if_neg h1] at *
      simp only [List.getElem?_cons_zero] at h
      rw [if_pos h]; rfl
theorem putF_new : ∀ (l : List F) (f : F), hasF l f.name = false → putF l f = l.take (posF l f.name) ++ f :: l.drop (posF l f.name)
  | [], f, _ => rfl
  | g :: l, f, h => by
    have ih := putF_new l f
    simp only [hasF, posF, putF] at h ih ⊢
    by_cases h1 : Op.bytesLess g.name f.name = true
    · rw [if_pos h1] at h ⊢
      rw [if_pos h1, List.getElem?_cons_succ] at *
      rw [ih h]; rfl
    · rw [if_neg h1] at h ⊢
      rw [if_neg h1] at *
      simp only [List.getElem?_cons_zero] at h
      rw [if_neg (by simp [h])]; rfl
theorem rises_tail {g : F} {l : List F} (h : rises (g :: l) = true) : rises l = true := by
  cases l with
  | nil => rfl
  | cons a l => simp only [rises, Bool.and_eq_true] at h; exact h.2
theorem rises_all : ∀ {g : F} {l : List F}, rises (g :: l) = true → ∀ x ∈ l, Op.bytesLess g.name x.name = true
  | g, a :: l, h, x, hx => by
    have h1 : Op.bytesLess g.name a.name = true := by simp only [rises, Bool.and_eq_true] at h; exact h.1
    rcases List.mem_cons.1 hx with rfl | hx
    · exact h1
    · exact less_trans h1 (rises_all (rises_tail h) x hx)
theorem posF_c1 {a : F} {l : List F} {n : List UInt8} (h : Op.bytesLess a.name n = true) : posF (a :: l) n = posF l n + 1 := by simp [posF, h]
theorem posF_c0 {a : F} {l : List F} {n : List UInt8} (h : ¬ Op.bytesLess a.name n = true) : posF (a :: l) n = 0 := by simp [posF, h]
theorem posF_lt : ∀ {l : List F} {n : List UInt8} {k : Nat} {g : F}, rises l = true → l[k]? = some g → (Op.bytesLess g.name n = true ↔ k < posF l n)
  | a :: l, n, 0, g, _, hk => by
    simp only [List.getElem?_cons_zero, Option.some.injEq] at hk
    subst hk
    by_cases h1 : Op.bytesLess a.name n = true
    · rw [posF_c1 h1]; simp [h1]
    · rw [posF_c0 h1]; simp [h1]
  | a :: l, n, k + 1, g, h, hk => by
    rw [List.getElem?_cons_succ] at hk
    by_cases h1 : Op.bytesLess a.name n = true
    · rw [posF_c1 h1, posF_lt (rises_tail h) hk]; omega
    · rw [posF_c0 h1]
      have h2 := rises_all h g (List.mem_of_getElem? hk)
      exact ⟨fun h3 => absurd (less_trans h2 h3) h1, fun h3 => by omega⟩
theorem cb_byL : ∀ a b : List UInt8, Lib.compareBytes a b = byL a b
  | [], [] => by simp [Lib.compareBytes, byL_self]
  | [], b :: bs => by simp [Lib.compareBytes, byL, Op.bytesLess]
  | a :: as, [] => by simp [Lib.compareBytes, byL, Op.bytesLess]
  | a :: as, b :: bs => by
    have ih := cb_byL as bs
    simp only [Lib.compareBytes]
    by_cases h1 : a < b
    · rw [if_pos h1]
      have : Op.bytesLess (a :: as) (b :: bs) = true := by simp [Op.bytesLess, h1]
      rw [byL_lt this]
    · rw [if_neg h1]
      by_cases h2 : b < a
      · rw [if_pos h2]
        have : Op.bytesLess (b :: bs) (a :: as) = true := by simp [Op.bytesLess, h2]
        rw [byL_gt this]
      · rw [if_neg h2]
        have e : a = b := by
          apply UInt8.toNat_inj.1
          have h3 : ¬ a.toNat < b.toNat := fun h => h1 (UInt8.lt_iff_toNat_lt.2 h)
          have h4 : ¬ b.toNat < a.toNat := fun h => h2 (UInt8.lt_iff_toNat_lt.2 h)
          omega
        subst e
        rw [ih]
        exact (byL_append [a] as bs).symm
theorem cb_lt {a b : List UInt8} : (Lib.compareBytes a b < 0) ↔ Op.bytesLess a b = true := by
  rw [cb_byL]
  unfold byL
  by_cases h : Op.bytesLess a b = true
  · simp [h]
  · have h' : Op.bytesLess a b = false := by simpa using h
    rw [h']
    simp
    split <;> omega
theorem cb_eq {a b : List UInt8} : Lib.compareBytes a b = 0 ↔ a = b := by
  rw [cb_byL]
  exact ⟨byL_zero, fun h => by subst h; exact byL_self _⟩
/-! ### Cells -/
theorem flat_take' {sz : Nat} : ∀ {ys : List DV}, (∀ y ∈ ys, y.cells.length = sz) → ∀ i, flat (ys.take i) = (flat ys).take (i * sz)
  | [], _, i => by simp [flat]
  | y :: ys, h, 0 => by simp [flat]
  | y :: ys, h, i + 1 => by
    have ih := flat_take' (ys := ys) (fun z hz => h z (by simp [hz])) i
    have hy := h y (by simp)
    have e : flat (y :: ys) = y.cells ++ flat ys := by simp [flat]
    have e2 : flat (y :: ys.take i) = y.cells ++ flat (ys.take i) := by simp [flat]
    rw [List.take_succ_cons, e2, e, ih, show (i + 1) * sz = y.cells.length + i * sz by rw [hy, Nat.add_mul]; omega, List.take_length_add_append]
theorem flat_drop' {sz : Nat} : ∀ {ys : List DV}, (∀ y ∈ ys, y.cells.length = sz) → ∀ i, flat (ys.drop i) = (flat ys).drop (i * sz)
  | [], _, i => by simp [flat]
  | y :: ys, h, 0 => by simp [flat]
  | y :: ys, h, i + 1 => by
    have ih := flat_drop' (ys := ys) (fun z hz => h z (by simp [hz])) i
    have hy := h y (by simp)
    have e : flat (y :: ys) = y.cells ++ flat ys := by simp [flat]
    rw [List.drop_succ_cons, e, ih, show (i + 1) * sz = y.cells.length + i * sz by rw [hy, Nat.add_mul]; omega, List.drop_length_add_append]
/-- The cells of fields. -/
def fcells (l : List F) : List AV := (flat (l.map fD)).map .d
theorem fsz (l : List F) : ∀ y ∈ l.map fD, y.cells.length = 7 := by
  intro y hy
  obtain ⟨f, _, rfl⟩ := List.mem_map.1 hy
  exact fC_len f
theorem fone (l : List F) : ∀ d ∈ flat (l.map fD), d.one = true := by
  intro d hd
  obtain ⟨y, hy, hd⟩ := List.mem_flatMap.1 hd
  obtain ⟨f, _, rfl⟩ := List.mem_map.1 hy
  exact fC_one f d hd
theorem fcells_len (l : List F) : (fcells l).length = l.length * 7 := by
  rw [fcells, List.length_map, flat_length (fsz l), List.length_map]
theorem fcells_take (l : List F) (i : Nat) : fcells (l.take i) = (fcells l).take (i * 7) := by
  rw [fcells, fcells, List.map_take, flat_take' (fsz l), List.map_take]
theorem fcells_drop (l : List F) (i : Nat) : fcells (l.drop i) = (fcells l).drop (i * 7) := by
  rw [fcells, fcells, List.map_drop, flat_drop' (fsz l), List.map_drop]
theorem fcells_append (l m : List F) : fcells (l ++ m) = fcells l ++ fcells m := by
  simp [fcells, flat]
theorem fcells_cons (f : F) (m : List F) : fcells (f :: m) = (fC f).map .d ++ fcells m := by
  simp only [fcells, flat, List.map_cons, List.flatMap_cons, List.map_append]
  rfl
theorem fcells_at {l : List F} {k : Nat} {f : F} (h : l[k]? = some f) : ((fcells l).drop (k * 7)).take 7 = (fC f).map .d := by
  rw [← fcells_drop, drop_one h, fcells_cons, List.take_left' (by rw [List.length_map, fC_len])]
theorem fcells_one (l : List F) : ∀ v ∈ fcells l, v.one = true := by
  intro v hv
  obtain ⟨d, hd, rfl⟩ := List.mem_map.1 hv
  exact fone l d hd
theorem rises_set {l : List F} {k : Nat} {f g : F} (hr : rises l = true) (h : l[k]? = some g) (hn : g.name = f.name) : rises (l.set k f) = true := by
  induction l generalizing k with
  | nil => rfl
  | cons a l ih =>
    cases k with
    | zero =>
      simp only [List.getElem?_cons_zero, Option.some.injEq] at h
      subst h
      cases l with
      | nil => rfl
      | cons b l => simp only [rises, List.set_cons_zero, Bool.and_eq_true] at hr ⊢; rw [← hn]; exact hr
    | succ k =>
      rw [List.getElem?_cons_succ] at h
      have h1 := ih (rises_tail hr) h
      cases l with
      | nil => simp at h
      | cons b l =>
        cases k with
        | zero =>
          simp only [List.getElem?_cons_zero, Option.some.injEq] at h
          subst h
          simp only [rises, List.set_cons_succ, List.set_cons_zero, Bool.and_eq_true] at hr h1 ⊢
          exact ⟨by rw [← hn]; exact hr.1, h1⟩
        | succ k =>
          simp only [rises, List.set_cons_succ, Bool.and_eq_true] at hr h1 ⊢
          exact ⟨hr.1, h1⟩
theorem putF_name {l : List F} {f x : F} (h : x ∈ putF l f) : x = f ∨ x ∈ l := by
  induction l with
  | nil => simp [putF] at h; exact .inl h
  | cons g l ih =>
    simp only [putF] at h
    split at h
    · rcases List.mem_cons.1 h with rfl | h
      · exact .inr (by simp)
      · rcases ih h with h | h
        · exact .inl h
        · exact .inr (by simp [h])
    · split at h
      · rcases List.mem_cons.1 h with rfl | h
        · exact .inl rfl
        · exact .inr (by simp [h])
      · rcases List.mem_cons.1 h with rfl | h
        · exact .inl rfl
        · exact .inr h
theorem rises_cons {g : F} {l : List F} (h1 : ∀ x ∈ l, Op.bytesLess g.name x.name = true) (h2 : rises l = true) : rises (g :: l) = true := by
  cases l with
  | nil => rfl
  | cons a l => simp only [rises, Bool.and_eq_true]; exact ⟨h1 a (by simp), h2⟩
theorem putF_rises {l : List F} (f : F) (h : rises l = true) : rises (putF l f) = true := by
  induction l with
  | nil => rfl
  | cons g l ih =>
    have hall := rises_all h
    simp only [putF]
    split
    · rename_i h1
      refine rises_cons (fun x hx => ?_) (ih (rises_tail h))
      rcases putF_name hx with rfl | hx
      · exact h1
      · exact hall x hx
    · rename_i h1
      split
      · rename_i h2
        have h2 : g.name = f.name := by simpa using h2
        exact rises_cons (fun x hx => by rw [← h2]; exact hall x hx) (rises_tail h)
      · rename_i h2
        have h2 : ¬ g.name = f.name := by simpa using h2
        have h3 : Op.bytesLess f.name g.name = true := by
          rw [less_total h2]; simpa using h1
        exact rises_cons (fun x hx => by
          rcases List.mem_cons.1 hx with rfl | hx
          · exact h3
          · exact less_trans h3 (hall x hx)) h
theorem ofF_step {fs : List F} {k : Nat} {f : F} (h : fs[k]? = some f) : ofF (fs.take (k + 1)) = putF (ofF (fs.take k)) f := by
  rw [take_snoc h, ofF, List.foldl_append]; rfl
theorem foldl_rises : ∀ (fs l : List F), rises l = true → rises (fs.foldl putF l) = true
  | [], _, h => h
  | f :: fs, l, h => foldl_rises fs (putF l f) (putF_rises f h)
theorem ofF_rises (fs : List F) : rises (ofF fs) = true := foldl_rises fs [] rfl
theorem putF_len (l : List F) (f : F) : (putF l f).length ≤ l.length + 1 := by
  induction l with
  | nil => simp [putF]
  | cons g l ih =>
    simp only [putF]
    split
    · simp; exact ih
    · split <;> simp
theorem foldl_len : ∀ (fs l : List F), (fs.foldl putF l).length ≤ l.length + fs.length
  | [], _ => by simp
  | f :: fs, l => by
    have h1 := foldl_len fs (putF l f)
    have h2 := putF_len l f
    simp only [List.foldl_cons, List.length_cons]
    omega
theorem ofF_len (fs : List F) : (ofF fs).length ≤ fs.length := by
  have h := foldl_len fs []
  rw [List.length_nil, Nat.zero_add] at h
  exact h
theorem foldl_mem : ∀ (fs l : List F) (x : F), x ∈ fs.foldl putF l → x ∈ l ∨ x ∈ fs
  | [], _, _, h => .inl h
  | f :: fs, l, x, h => by
    rcases foldl_mem fs (putF l f) x h with h | h
    · rcases putF_name h with rfl | h
      · exact .inr (by simp)
      · exact .inl h
    · exact .inr (by simp [h])
theorem ofF_mem {fs : List F} {x : F} (h : x ∈ ofF fs) : x ∈ fs := by
  rcases foldl_mem fs [] x h with h | h
  · cases h
  · exact h
end Go.AV.Val
