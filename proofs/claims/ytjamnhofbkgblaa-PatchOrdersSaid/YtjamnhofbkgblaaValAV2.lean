/-
  What is written of a value, part by part; what is right, part by part.
-/
import Derived.Test.YtjamnhofbkgblaaValAV
import Derived.Test.YtjamnhofbkgblaaValBits
import Derived.Test.YtjamnhofbkgblaaA18
namespace Go.AV.Val
open Go.AV.Ord Go.AV.Oct
/-- A value, its parts named. -/
abbrev v6D (k : Int) (y : Bool) (i : Int) (tx : List UInt8) (ls : List V) (fs : List F) : List DV := [I k, TF y, .v (.int .i64 i), S tx, .lst 6 (ls.map vD), .lst 7 (fs.map fD)]
theorem v6D_eq (k : Int) (y : Bool) (i : Int) (tx : List UInt8) (ls : List V) (fs : List F) : vC (.mk k y i tx ls fs) = v6D k y i tx ls fs := vC_eq _
theorem fD_cells7 (f : F) : (fD f).cells = [S f.name, I f.val.kind, TF f.val.yes, .v (.int .i64 f.val.num), S f.val.text, .lst 6 (f.val.list.map vD), .lst 7 (f.val.fields.map fD)] := by
  rw [fD_cells, vC_eq]
theorem fC7 (f : F) : [S f.name, I f.val.kind, TF f.val.yes, .v (.int .i64 f.val.num), S f.val.text, .lst 6 (f.val.list.map vD), .lst 7 (f.val.fields.map fD)] = fC f := (fD_cells7 f).symm
def encLj (bs : List UInt8) (ls : List V) (j : Nat) : List UInt8 := bs ++ UInt8.ofNat 4 :: (numB ls.length ++ (ls.take j).flatMap encV)
def encFj (bs : List UInt8) (fs : List F) (j : Nat) : List UInt8 := bs ++ UInt8.ofNat 5 :: (numB fs.length ++ (fs.take j).flatMap fieldB)
theorem encLj_0 (bs : List UInt8) (ls : List V) : encLj bs ls 0 = bs ++ [UInt8.ofNat 4] ++ numB ls.length := by simp [encLj]
theorem encFj_0 (bs : List UInt8) (fs : List F) : encFj bs fs 0 = bs ++ [UInt8.ofNat 5] ++ numB fs.length := by simp [encFj]
theorem encLj_step {bs : List UInt8} {ls : List V} {j : Nat} {x : V} (h : ls[j]? = some x) : encLj bs ls (j + 1) = encLj bs ls j ++ encV x := by
  simp [encLj, take_snoc h]
theorem encFj_step {bs : List UInt8} {fs : List F} {j : Nat} {f : F} (h : fs[j]? = some f) : encFj bs fs (j + 1) = encFj bs fs j ++ textB f.name ++ encV f.val := by
  simp [encFj, take_snoc h, fieldB]
theorem flat_take_le {α : Type} (g : α → List UInt8) {l : List α} {j : Nat} {x : α} (h : l[j]? = some x) : ((l.take j).flatMap g).length + (g x).length ≤ (l.flatMap g).length := by
  have h1 : l.take j ++ (x :: l.drop (j + 1)) = l := by
    obtain ⟨h3, rfl⟩ := List.getElem?_eq_some_iff.1 h
    rw [← List.drop_eq_getElem_cons h3, List.take_append_drop]
  have h2 : (l.flatMap g).length = ((l.take j).flatMap g).length + ((g x).length + ((l.drop (j + 1)).flatMap g).length) := by
    conv => lhs; rw [← h1]
    simp
  omega
theorem encLj_le {bs : List UInt8} {y : Bool} {i : Int} {tx : List UInt8} {ls : List V} {fs : List F} {j : Nat} {x : V} (h : ls[j]? = some x) : (encLj bs ls j).length + (encV x).length ≤ bs.length + (encV (.mk 4 y i tx ls fs)).length := by
  have := flat_take_le encV h
  rw [encV_eq (.mk 4 y i tx ls fs)]
  simp only [if_true, show ¬ (4 : Int) = 1 by decide, show ¬ (4 : Int) = 2 by decide, show ¬ (4 : Int) = 3 by decide, if_false, List.length_append, List.length_cons, encLj, V.kind, V.list]
  omega
theorem encLj_full {bs : List UInt8} {y : Bool} {i : Int} {tx : List UInt8} {ls : List V} {fs : List F} : encLj bs ls ls.length = bs ++ encV (.mk 4 y i tx ls fs) := by
  rw [encV_eq (.mk 4 y i tx ls fs)]
  simp [encLj, V.kind, V.list]
theorem encFj_le {bs : List UInt8} {y : Bool} {i : Int} {tx : List UInt8} {ls : List V} {fs : List F} {j : Nat} {x : F} (h : fs[j]? = some x) : (encFj bs fs j).length + (textB x.name).length + (encV x.val).length ≤ bs.length + (encV (.mk 5 y i tx ls fs)).length := by
  have := flat_take_le fieldB h
  rw [encV_eq (.mk 5 y i tx ls fs)]
  simp only [fieldB, List.length_append] at this
  simp only [if_true, show ¬ (5 : Int) = 1 by decide, show ¬ (5 : Int) = 2 by decide, show ¬ (5 : Int) = 3 by decide, if_false, show ¬ (5 : Int) = 4 by decide, List.length_append, List.length_cons, encFj, V.kind, V.fields]
  omega
theorem encFj_full {bs : List UInt8} {y : Bool} {i : Int} {tx : List UInt8} {ls : List V} {fs : List F} : encFj bs fs fs.length = bs ++ encV (.mk 5 y i tx ls fs) := by
  rw [encV_eq (.mk 5 y i tx ls fs)]
  simp [encFj, V.kind, V.fields]
theorem list_small {y : Bool} {i : Int} {tx : List UInt8} {ls : List V} {fs : List F} : ls.length + 2 ≤ (encV (.mk 4 y i tx ls fs)).length := by
  have := flat_ge encV encV_pos ls
  rw [encV_eq (.mk 4 y i tx ls fs)]
  simp only [if_true, show ¬ (4 : Int) = 1 by decide, show ¬ (4 : Int) = 2 by decide, show ¬ (4 : Int) = 3 by decide, if_false, List.length_append, List.length_cons, numB, V.kind, V.list]
  omega
theorem fields_small {y : Bool} {i : Int} {tx : List UInt8} {ls : List V} {fs : List F} : fs.length + 2 ≤ (encV (.mk 5 y i tx ls fs)).length := by
  have := flat_ge fieldB fieldB_pos fs
  rw [encV_eq (.mk 5 y i tx ls fs)]
  simp only [if_true, show ¬ (5 : Int) = 1 by decide, show ¬ (5 : Int) = 2 by decide, show ¬ (5 : Int) = 3 by decide, if_false, show ¬ (5 : Int) = 4 by decide, List.length_append, List.length_cons, numB, V.kind, V.fields]
  omega

/-! ### Right -/
def only2 (k : Int) (y : Bool) : Bool := if k = 1 then y else false
def only3 (k : Int) (i : Int) : Int := if k = 2 then i else 0
def only4 (k : Int) (tx : List UInt8) : List UInt8 := if k = 3 then tx else []
/-- The program's own test. -/
def wrongV (D : Nat) (k : Int) (y : Bool) (i : Int) (tx : List UInt8) (ls : List V) (fs : List F) : Bool :=
  (y != only2 k y) || (i != only3 k i) || (!(tx == only4 k tx)) || ((k != 4) && decide (0 < (ls.length : Int))) || ((k != 5) && decide (0 < (fs.length : Int))) || decide ((D : Int) < 1)
theorem len_pos {α : Type} (l : List α) : (!(l.isEmpty)) = decide (0 < (l.length : Int)) := by
  cases l with
  | nil => rfl
  | cons a l => simp
theorem wrong_only {D : Nat} {k : Int} {y : Bool} {i : Int} {tx : List UInt8} {ls : List V} {fs : List F} (h0 : 0 ≤ k) (h5 : k ≤ 5) : wrongV D k y i tx ls fs = !(onlyV (.mk k y i tx ls fs) && decide (1 ≤ D)) := by
  have e1 : (y != only2 k y) = !((k == 1) || y == false) := by unfold only2; by_cases h : k = 1 <;> simp [h]
  have e2 : (i != only3 k i) = !((k == 2) || i == 0) := by unfold only3; by_cases h : k = 2 <;> simp [h, bne]
  have e3 : (!(tx == only4 k tx)) = !((k == 3) || tx == []) := by unfold only4; by_cases h : k = 3 <;> simp [h]
  have e4 : decide ((D : Int) < 1) = !decide (1 ≤ D) := by rw [Bool.eq_iff_iff]; simp; omega
  simp only [wrongV, e1, e2, e3, e4, ← len_pos]
  simp only [onlyV, V.kind, V.yes, V.num, V.text, V.list, V.fields, h0, h5, decide_true, Bool.true_and, bne, Bool.not_and, Bool.not_or]
theorem right_wrong {D : Nat} {k : Int} {y : Bool} {i : Int} {tx : List UInt8} {ls : List V} {fs : List F} (h0 : 0 ≤ k) (h5 : k ≤ 5) (h : wrongV D k y i tx ls fs = true) : rightV D (.mk k y i tx ls fs) = false := by
  rw [wrong_only h0 h5] at h
  cases D with
  | zero => rfl
  | succ d =>
    have : onlyV (.mk k y i tx ls fs) = false := by simpa using h
    simp [rightV, this]
theorem right_kind {D : Nat} {k : Int} {y : Bool} {i : Int} {tx : List UInt8} {ls : List V} {fs : List F} (h : k < 0 ∨ 5 < k) : rightV D (.mk k y i tx ls fs) = false := by
  cases D with
  | zero => rfl
  | succ d =>
    have : onlyV (.mk k y i tx ls fs) = false := by
      unfold onlyV
      simp only [V.kind]
      rcases h with h | h
      · simp [show ¬ 0 ≤ k by omega]
      · simp [show ¬ k ≤ 5 by omega]
    simp [rightV, this]
def fieldsOk (d : Nat) (fs : List F) : Bool := rises fs && fs.all (fun f => rightV d f.val)
theorem right_ok {D : Nat} {k : Int} {y : Bool} {i : Int} {tx : List UInt8} {ls : List V} {fs : List F} (h0 : 0 ≤ k) (h5 : k ≤ 5) (h : wrongV D k y i tx ls fs = false) : ∃ d, D = d + 1 ∧ rightV (d + 1) (.mk k y i tx ls fs) = (fieldsOk d fs && ls.all (rightV d)) := by
  rw [wrong_only h0 h5] at h
  have h1 : onlyV (.mk k y i tx ls fs) = true ∧ 1 ≤ D := by simpa using h
  obtain ⟨d, rfl⟩ : ∃ d, D = d + 1 := ⟨D - 1, by omega⟩
  exact ⟨d, rfl, by simp [rightV, h1.1, V.fields, V.list, fieldsOk]⟩
theorem fieldsOk_step {d : Nat} {fs : List F} {j : Nat} {f : F} (h : fs[j]? = some f) : fieldsOk d (fs.take (j + 1)) = (fieldsOk d (fs.take j) && (!notBelow (fs.take j) f.name && rightV d f.val)) := by
  rw [take_snoc h]
  simp only [fieldsOk, rises_snoc, List.all_append, List.all_cons, List.all_nil, Bool.and_true]
  cases rises (fs.take j) <;> cases notBelow (fs.take j) f.name <;> simp
theorem fieldsOk_pre {d : Nat} {fs : List F} {j : Nat} (h : fieldsOk d (fs.take j) = false) : fieldsOk d fs = false := by
  cases ht : fieldsOk d fs with
  | false => rfl
  | true =>
    simp only [fieldsOk, Bool.and_eq_true, List.all_eq_true] at ht
    have h1 : rises (fs.take j) = true := rises_pre (fs.drop j) _ (by rw [List.take_append_drop]; exact ht.1)
    have h2 : fieldsOk d (fs.take j) = true := by
      simp only [fieldsOk, h1, Bool.true_and, List.all_eq_true]
      exact fun x hx => ht.2 x (List.mem_of_mem_take hx)
    rw [h2] at h; cases h
theorem take_at {α : Type} {l : List α} {j : Nat} {y : α} (h : l[j - 1]? = some y) (hj : 0 < j) : (l.take j)[j - 1]? = some y := by
  rw [List.getElem?_take, if_pos (by omega)]; exact h
end Go.AV.Val
namespace Go.AV.Val
open Go.AV.Ord Go.AV.Oct
theorem encV_mk (k : Int) (y : Bool) (i : Int) (tx : List UInt8) (ls : List V) (fs : List F) : encV (.mk k y i tx ls fs) = UInt8.ofNat k.toNat :: (if k = 1 then flagB y else if k = 2 then intB i else if k = 3 then textB tx else if k = 4 then numB ls.length ++ ls.flatMap encV else if k = 5 then numB fs.length ++ fs.flatMap fieldB else []) := by
  rw [encV, encL_flat, encF_flat]
end Go.AV.Val
namespace Go.AV.Val
open Go.AV.Ord Go.AV.Oct
/-- Lists that are not too long, in all parts. -/
inductive SmallV : V → Prop
  | mk (k : Int) (y : Bool) (n : Int) (t : List UInt8) (l : List V) (fs : List F) (hl : l.length ≤ 1000000) (hf : fs.length ≤ 1000000) (h1 : ∀ x ∈ l, SmallV x) (h2 : ∀ f ∈ fs, SmallV f.val) : SmallV (.mk k y n t l fs)
theorem SmallV.ll {v : V} (h : SmallV v) : v.list.length ≤ 1000000 := by cases h; assumption
theorem SmallV.fl {v : V} (h : SmallV v) : v.fields.length ≤ 1000000 := by cases h; assumption
theorem SmallV.l {v : V} (h : SmallV v) : ∀ x ∈ v.list, SmallV x := by cases h; assumption
theorem SmallV.f {v : V} (h : SmallV v) : ∀ f ∈ v.fields, SmallV f.val := by cases h; assumption
theorem not_any_not {α : Type} (p : α → Bool) (l : List α) : (!(l.any fun x => !(p x))) = l.all p := by
  rw [Bool.eq_iff_iff]; simp
theorem right_only {d : Nat} {v : V} (h : rightV (d + 1) v = true) : onlyV v = true ∧ (∀ f ∈ v.fields, rightV d f.val = true) ∧ (∀ x ∈ v.list, rightV d x = true) ∧ rises v.fields = true := by
  simp only [rightV, Bool.and_eq_true, List.all_eq_true] at h
  exact ⟨h.1.1.1, h.1.2, h.2, h.1.1.2⟩
theorem only_list {v : V} (h : onlyV v = true) : 0 ≤ v.kind ∧ v.kind ≤ 5 ∧ (v.kind ≠ 4 → v.list = []) ∧ (v.kind ≠ 5 → v.fields = []) := by
  unfold onlyV at h
  simp only [Bool.and_eq_true, decide_eq_true_eq, Bool.or_eq_true, beq_iff_eq, List.isEmpty_iff] at h
  obtain ⟨⟨⟨⟨⟨⟨h0, h5⟩, _⟩, _⟩, _⟩, h4⟩, h6⟩ := h
  exact ⟨h0, h5, fun h => h4.resolve_left h, fun h => h6.resolve_left h⟩
/-- What is right and not too long has lists that are not too long. -/
theorem small_of : ∀ (d : Nat) (v : V), rightV d v = true → (encV v).length ≤ 1000000 → SmallV v
  | 0, _, h, _ => by simp [rightV] at h
  | d + 1, v, h, hl => by
    obtain ⟨h1, h2, h3, _⟩ := right_only h
    obtain ⟨h0, h5, h4, h6⟩ := only_list h1
    rw [encV_eq] at hl
    have hls : v.list.length ≤ 1000000 ∧ ∀ x ∈ v.list, (encV x).length ≤ 1000000 := by
      by_cases hk : v.kind = 4
      · simp only [hk, show ¬ (4 : Int) = 1 by decide, show ¬ (4 : Int) = 2 by decide, show ¬ (4 : Int) = 3 by decide, if_true, if_false, List.length_cons, List.length_append] at hl
        have hge := flat_ge encV encV_pos v.list
        exact ⟨by omega, fun x hx => by have := flat_mem encV v.list x hx; omega⟩
      · rw [h4 hk]; exact ⟨by simp, fun x hx => by cases hx⟩
    have hfs : v.fields.length ≤ 1000000 ∧ ∀ x ∈ v.fields, (encV x.val).length ≤ 1000000 := by
      by_cases hk : v.kind = 5
      · simp only [hk, show ¬ (5 : Int) = 1 by decide, show ¬ (5 : Int) = 2 by decide, show ¬ (5 : Int) = 3 by decide, show ¬ (5 : Int) = 4 by decide, if_true, if_false, List.length_cons, List.length_append] at hl
        have hge := flat_ge fieldB fieldB_pos v.fields
        exact ⟨by omega, fun x hx => by have := flat_mem fieldB v.fields x hx; simp only [fieldB, List.length_append] at this; omega⟩
      · rw [h6 hk]; exact ⟨by simp, fun x hx => by cases hx⟩
    rw [v.eta]
    exact .mk _ _ _ _ _ _ hls.1 hfs.1 (fun x hx => small_of d x (h3 x hx) (hls.2 x hx)) (fun f hf => small_of d f.val (h2 f hf) (hfs.2 f hf))
end Go.AV.Val
