/- Part 3 of what the law needs: ValAV2, ValCmp, ValFew, ValLaw, MapPlain, MapAV, A19, A20, A21, A22, A23, HistPlain, HistW, OrdW, BldW, CutW, HistK, HistQ, HistAV, HistTurn, HistT, HistEv. -/
import Derived.Test.YtjbpfnoibeogbaaPE2
import Derived.Maps.RangeRun
import Derived.MapKept
import Derived.Scope
import Derived.Laws.StructEq
import Derived.KernelRfl
import Derived.Shelf.Sort.Plain
import Derived.Shelf.Slices.CompactS
import Derived.Shelf.Slices.In.SortNone
import Derived.Shelf.SlMaps.Clone
namespace Go.AV.Val
open Go.AV.Ord Go.AV.Oct
theorem fields_small {y : Bool} {i : Int} {tx : List UInt8} {ls : List V} {fs : List F} : fs.length + 2 ≤ (encV (.mk 5 y i tx ls fs)).length := by
  have := flat_ge fieldB fieldB_pos fs
  rw [encV_eq (.mk 5 y i tx ls fs)]
  simp only [if_true, show ¬ (5 : Int) = 1 by decide, show ¬ (5 : Int) = 2 by decide, show ¬ (5 : Int) = 3 by decide, if_false, show ¬ (5 : Int) = 4 by decide, List.length_append, List.length_cons, numB, V.kind, V.fields]
  omega
def only2 (k : Int) (y : Bool) : Bool := if k = 1 then y else false
def only3 (k : Int) (i : Int) : Int := if k = 2 then i else 0
def only4 (k : Int) (tx : List UInt8) : List UInt8 := if k = 3 then tx else []
def wrongV (D : Nat) (k : Int) (y : Bool) (i : Int) (tx : List UInt8) (ls : List V) (fs : List F) : Bool :=
  (y != only2 k y) || (i != only3 k i) || (!(tx == only4 k tx)) || ((k != 4) && decide (0 < (ls.length : Int))) || ((k != 5) && decide (0 < (fs.length : Int))) || decide ((D : Int) < 1)
theorem len_pos {α : Type} (l : List α) : (!(l.isEmpty)) = decide (0 < (l.length : Int)) := by
  cases l with
  | nil => rfl
  | cons a l => simp
theorem wrong_only {D : Nat} {k : Int} {y : Bool} {i : Int} {tx : List UInt8} {ls : List V} {fs : List F} (h0 : 0 ≤ k) (h5 : k ≤ 5) : wrongV D k y i tx ls fs = !(onlyV (.mk k y i tx ls fs) && decide (1 ≤ D)) := by
  have e1 : (y != only2 k y) = !((k == 1) || y == false) := by unfold only2; by_cases h : k = 1 <;> simp [h]
  have e2 : (i != only3 k i) = !((k == 2) || i == 0) := by unfold only3; by_cases h : k = 2 <;> simp [h, bne]
  have e3 : (!(tx == only4 k tx)) = !((k == 3) || tx == []) := by unfold only4; by_cases h : k = 3 <;> simp [h]
  have e4 : decide ((D : Int) < 1) = !decide (1 ≤ D) := by rw [Bool.eq_iff_iff]; simp; omega
  simp only [wrongV, e1, e2, e3, e4, ← len_pos]
  simp only [onlyV, V.kind, V.yes, V.num, V.text, V.list, V.fields, h0, h5, decide_true, Bool.true_and, bne, Bool.not_and, Bool.not_or]
theorem right_wrong {D : Nat} {k : Int} {y : Bool} {i : Int} {tx : List UInt8} {ls : List V} {fs : List F} (h0 : 0 ≤ k) (h5 : k ≤ 5) (h : wrongV D k y i tx ls fs = true) : rightV D (.mk k y i tx ls fs) = false := by
  rw [wrong_only h0 h5] at h
  cases D with
  | zero => rfl
  | succ d =>
    have : onlyV (.mk k y i tx ls fs) = false := by simpa using h
    simp [rightV, this]
theorem right_kind {D : Nat} {k : Int} {y : Bool} {i : Int} {tx : List UInt8} {ls : List V} {fs : List F} (h : k < 0 ∨ 5 < k) : rightV D (.mk k y i tx ls fs) = false := by
  cases D with
  | zero => rfl
  | succ d =>
    have : onlyV (.mk k y i tx ls fs) = false := by
      unfold onlyV
      simp only [V.kind]
      rcases h with h | h
      · simp [show ¬ 0 ≤ k by omega]
      · simp [show ¬ k ≤ 5 by omega]
    simp [rightV, this]
def fieldsOk (d : Nat) (fs : List F) : Bool := rises fs && fs.all (fun f => rightV d f.val)
theorem fieldsOk_pre {d : Nat} {fs : List F} {j : Nat} (h : fieldsOk d (fs.take j) = false) : fieldsOk d fs = false := by
  cases ht : fieldsOk d fs with
  | false => rfl
  | true =>
    simp only [fieldsOk, Bool.and_eq_true, List.all_eq_true] at ht
    have h1 : rises (fs.take j) = true := rises_pre (fs.drop j) _ (by rw [List.take_append_drop]; exact ht.1)
    have h2 : fieldsOk d (fs.take j) = true := by
      simp only [fieldsOk, h1, Bool.true_and, List.all_eq_true]
      exact fun x hx => ht.2 x (List.mem_of_mem_take hx)
    rw [h2] at h; cases h
end Go.AV.Val
namespace Go.AV.Val
open Go.AV.Ord Go.AV.Oct
end Go.AV.Val
namespace Go.AV.Val
open Go.AV.Ord Go.AV.Oct
inductive SmallV : V → Prop
  | mk (k : Int) (y : Bool) (n : Int) (t : List UInt8) (l : List V) (fs : List F) (hl : l.length ≤ 1000000) (hf : fs.length ≤ 1000000) (h1 : ∀ x ∈ l, SmallV x) (h2 : ∀ f ∈ fs, SmallV f.val) : SmallV (.mk k y n t l fs)
theorem SmallV.ll {v : V} (h : SmallV v) : v.list.length ≤ 1000000 := by cases h; assumption
theorem SmallV.fl {v : V} (h : SmallV v) : v.fields.length ≤ 1000000 := by cases h; assumption
theorem SmallV.l {v : V} (h : SmallV v) : ∀ x ∈ v.list, SmallV x := by cases h; assumption
theorem SmallV.f {v : V} (h : SmallV v) : ∀ f ∈ v.fields, SmallV f.val := by cases h; assumption
theorem right_only {d : Nat} {v : V} (h : rightV (d + 1) v = true) : onlyV v = true ∧ (∀ f ∈ v.fields, rightV d f.val = true) ∧ (∀ x ∈ v.list, rightV d x = true) ∧ rises v.fields = true := by
  simp only [rightV, Bool.and_eq_true, List.all_eq_true] at h
  exact ⟨h.1.1.1, h.1.2, h.2, h.1.1.2⟩
theorem only_list {v : V} (h : onlyV v = true) : 0 ≤ v.kind ∧ v.kind ≤ 5 ∧ (v.kind ≠ 4 → v.list = []) ∧ (v.kind ≠ 5 → v.fields = []) := by
  unfold onlyV at h
  simp only [Bool.and_eq_true, decide_eq_true_eq, Bool.or_eq_true, beq_iff_eq, List.isEmpty_iff] at h
  obtain ⟨⟨⟨⟨⟨⟨h0, h5⟩, _⟩, _⟩, _⟩, h4⟩, h6⟩ := h
  exact ⟨h0, h5, fun h => h4.resolve_left h, fun h => h6.resolve_left h⟩
theorem small_of : ∀ (d : Nat) (v : V), rightV d v = true → (encV v).length ≤ 1000000 → SmallV v
  | 0, _, h, _ => by simp [rightV] at h
  | d + 1, v, h, hl => by
    obtain ⟨h1, h2, h3, _⟩ := right_only h
    obtain ⟨h0, h5, h4, h6⟩ := only_list h1
    rw [encV_eq] at hl
    have hls : v.list.length ≤ 1000000 ∧ ∀ x ∈ v.list, (encV x).length ≤ 1000000 := by
      by_cases hk : v.kind = 4
      · simp only [hk, show ¬ (4 : Int) = 1 by decide, show ¬ (4 : Int) = 2 by decide, show ¬ (4 : Int) = 3 by decide, if_true, if_false, List.length_cons, List.length_append] at hl
        have hge := flat_ge encV encV_pos v.list
        exact ⟨by omega, fun x hx => by have := flat_mem encV v.list x hx; omega⟩
      · rw [h4 hk]; exact ⟨by simp, fun x hx => by cases hx⟩
    have hfs : v.fields.length ≤ 1000000 ∧ ∀ x ∈ v.fields, (encV x.val).length ≤ 1000000 := by
      by_cases hk : v.kind = 5
      · simp only [hk, show ¬ (5 : Int) = 1 by decide, show ¬ (5 : Int) = 2 by decide, show ¬ (5 : Int) = 3 by decide, show ¬ (5 : Int) = 4 by decide, if_true, if_false, List.length_cons, List.length_append] at hl
        have hge := flat_ge fieldB fieldB_pos v.fields
        exact ⟨by omega, fun x hx => by have := flat_mem fieldB v.fields x hx; simp only [fieldB, List.length_append] at this; omega⟩
      · rw [h6 hk]; exact ⟨by simp, fun x hx => by cases hx⟩
    rw [v.eta]
    exact .mk _ _ _ _ _ _ hls.1 hfs.1 (fun x hx => small_of d x (h3 x hx) (hls.2 x hx)) (fun f hf => small_of d f.val (h2 f hf) (hfs.2 f hf))
end Go.AV.Val
namespace Go.AV.Val
open Go.AV.Ord Go.AV.Oct
def cmpI (a b : Int) : Int := if a < b then -1 else if b < a then 1 else 0
def yesI (b : Bool) : Int := if b then 1 else 0
mutual
def cmpV : V → V → Int
  | .mk k y i t l fs, o => if cmpI k o.kind ≠ 0 then cmpI k o.kind else if k = 1 then cmpI (yesI y) (yesI o.yes) else if k = 2 then cmpI i o.num else if k = 3 then Lib.compareBytes t o.text else if k = 4 then cmpL l o.list else if k = 5 then cmpF fs o.fields else 0
def cmpL : List V → List V → Int
  | [], [] => 0
  | [], _ :: _ => -1
  | _ :: _, [] => 1
  | a :: l, b :: m => if cmpV a b ≠ 0 then cmpV a b else cmpL l m
def cmpF : List F → List F → Int
  | [], [] => 0
  | [], _ :: _ => -1
  | _ :: _, [] => 1
  | .mk n v :: l, g :: m => if (if Lib.compareBytes n g.name ≠ 0 then Lib.compareBytes n g.name else cmpV v g.val) ≠ 0 then (if Lib.compareBytes n g.name ≠ 0 then Lib.compareBytes n g.name else cmpV v g.val) else cmpF l m
end
def orI (a b : Int) : Int := if a ≠ 0 then a else b
def cmpF1 (f g : F) : Int := orI (Lib.compareBytes f.name g.name) (cmpV f.val g.val)
theorem cmpV_mk (k : Int) (y : Bool) (i : Int) (t : List UInt8) (l : List V) (fs : List F) (o : V) : cmpV (.mk k y i t l fs) o = if cmpI k o.kind ≠ 0 then cmpI k o.kind else if k = 1 then cmpI (yesI y) (yesI o.yes) else if k = 2 then cmpI i o.num else if k = 3 then Lib.compareBytes t o.text else if k = 4 then cmpL l o.list else if k = 5 then cmpF fs o.fields else 0 := by rw [cmpV]
theorem cmpL_cons (a b : V) (l m : List V) : cmpL (a :: l) (b :: m) = if cmpV a b ≠ 0 then cmpV a b else cmpL l m := by rw [cmpL]
theorem cmpF_cons (f g : F) (l m : List F) : cmpF (f :: l) (g :: m) = if cmpF1 f g ≠ 0 then cmpF1 f g else cmpF l m := by
  cases f
  rw [cmpF]; rfl
theorem cmpL_nn : cmpL [] [] = 0 := by rw [cmpL]
theorem cmpL_nc (b : V) (m : List V) : cmpL [] (b :: m) = -1 := by rw [cmpL]
theorem cmpL_cn (b : V) (m : List V) : cmpL (b :: m) [] = 1 := by rw [cmpL]
theorem cmpF_nn : cmpF [] [] = 0 := by rw [cmpF]
theorem cmpF_nc (b : F) (m : List F) : cmpF [] (b :: m) = -1 := by rw [cmpF]
theorem cmpF_cn (b : F) (m : List F) : cmpF (b :: m) [] = 1 := by rw [cmpF]
section
variable {xs zs : List V} {fs gs : List F} {k : Nat}
end
def ofInt (n : Int) : V := .mk 2 false n [] [] []
theorem small_int (n : Int) : SmallV (ofInt n) := .mk _ _ _ _ _ _ (by decide) (by decide) (fun _ h => by cases h) (fun _ h => by cases h)
theorem wf_int {n : Int} (h : i64 n) : WfV (ofInt n) := .mk _ _ _ _ _ _ (by unfold i64; decide) h (fun _ h => by cases h) (fun _ h => by cases h)
theorem right_int (d : Nat) (n : Int) : rightV (d + 1) (ofInt n) = true := by
  simp [rightV, ofInt, onlyV, rises, V.kind, V.yes, V.num, V.text, V.list, V.fields]
theorem cmp_int (a b : Int) : cmpV (ofInt a) (ofInt b) = cmpI a b := by
  unfold ofInt
  rw [cmpV_mk]; rfl
theorem rL_wf {f : DS → V × DS} (hf : ∀ st, WfV (f st).1) : ∀ n st, ∀ x ∈ (rL f n st).1, WfV x
  | 0, _, x, hx => by cases hx
  | n + 1, st, x, hx => by
    simp only [rL] at hx
    split at hx
    · exact rL_wf hf n st x hx
    · rcases List.mem_append.1 hx with h | h
      · exact rL_wf hf n st x h
      · rw [List.mem_singleton.1 h]; exact hf _
theorem rF_wf {f : DS → V × DS} (hf : ∀ st, WfV (f st).1) : ∀ n st, ∀ x ∈ (rF f n st).1, WfV x.val
  | 0, _, x, hx => by cases hx
  | n + 1, st, x, hx => by
    simp only [rF] at hx
    split at hx
    · exact rF_wf hf n st x hx
    · rcases List.mem_append.1 hx with h | h
      · exact rF_wf hf n st x h
      · rw [List.mem_singleton.1 h]; exact hf _
theorem i64_0 : i64 0 := by unfold i64; decide
theorem wf_0 (k : Int) (hk : i64 k) (y : Bool) (t : List UInt8) : WfV (.mk k y 0 t [] []) := .mk _ _ _ _ _ _ hk i64_0 (fun _ h => by cases h) (fun _ h => by cases h)
theorem unzig_i64 {x : Nat} (h : x < 18446744073709551616) : i64 (unzig x) := by
  unfold unzig i64
  split <;> omega
theorem rV_wf : ∀ d st, WfV (rV d st).1
  | 0, st => by
    simp only [rV]
    split <;> exact wf_0 0 i64_0 _ _
  | d + 1, st => by
    simp only [rV]
    split
    · exact wf_0 0 i64_0 _ _
    · have hk : i64 (rKind st).1 := by
        unfold rKind
        split
        · exact i64_0
        · split
          · exact i64_0
          · rename_i c r _ _
            have := c.toNat_lt
            unfold i64; simp only []; omega
      unfold rBody
      split
      · exact wf_0 _ (by unfold i64; decide) _ _
      · split
        · refine .mk _ _ _ _ _ _ (by unfold i64; decide) (unzig_i64 ?_) (fun _ h => by cases h) (fun _ h => by cases h)
          obtain ⟨a, st2, ha⟩ : ∃ a st2, rNum 4294967295 (rKind st).2.1 = (a, st2) := ⟨_, _, rfl⟩
          obtain ⟨b, st3, hb⟩ : ∃ a st3, rNum 4294967295 st2 = (a, st3) := ⟨_, _, rfl⟩
          have h1 := rNum_most ha
          have h2 := rNum_most hb
          simp only [ha, hb]
          omega
        · split
          · exact wf_0 _ (by unfold i64; decide) _ _
          · split
            · exact .mk _ _ _ _ _ _ (by unfold i64; decide) i64_0 (rL_wf (rV_wf d) _ _) (fun _ h => by cases h)
            · split
              · exact .mk _ _ _ _ _ _ (by unfold i64; decide) i64_0 (fun _ h => by cases h) (rF_wf (rV_wf d) _ _)
              · exact wf_0 _ hk _ _
end Go.AV.Val
namespace Go.AV.Val
open Go.AV.Ord Go.AV.Oct
end Go.AV.Val
namespace Go.AV.Val
open Go.AV.Ord Go.AV.Oct
def fewTop (v : V) : Bool := decide (v.list.length ≤ 8) && decide (v.fields.length ≤ 8) && decide (v.text.length ≤ 200)
def fewV : Nat → V → Bool
  | 0, _ => false
  | n + 1, v => fewTop v && v.list.all (fewV n) && v.fields.all fun f => decide (f.name.length ≤ 40) && fewV n f.val
theorem few_parts {n : Nat} {v : V} (h : fewV (n + 1) v = true) : v.list.length ≤ 8 ∧ v.fields.length ≤ 8 ∧ v.text.length ≤ 200 ∧ (∀ x ∈ v.list, fewV n x = true) ∧ (∀ f ∈ v.fields, f.name.length ≤ 40 ∧ fewV n f.val = true) := by
  simp only [fewV, fewTop, Bool.and_eq_true, decide_eq_true_eq, List.all_eq_true] at h
  exact ⟨h.1.1.1.1, h.1.1.1.2, h.1.1.2, h.1.2, h.2⟩
theorem few_small : ∀ (n : Nat) (v : V), fewV n v = true → SmallV v
  | 0, _, h => by simp [fewV] at h
  | n + 1, v, h => by
    obtain ⟨h1, h2, _, h4, h5⟩ := few_parts h
    rw [v.eta]
    exact .mk _ _ _ _ _ _ (by omega) (by omega) (fun x hx => few_small n x (h4 x hx)) (fun f hf => few_small n f.val (h5 f hf).2)
theorem flat_bound {α : Type} (g : α → List UInt8) (b : Nat) : ∀ l : List α, (∀ x ∈ l, (g x).length ≤ b) → (l.flatMap g).length ≤ l.length * b
  | [], _ => by simp
  | x :: l, h => by
    have h1 := flat_bound g b l fun y hy => h y (by simp [hy])
    have h2 := h x (by simp)
    simp only [List.flatMap_cons, List.length_append, List.length_cons, Nat.add_mul, Nat.one_mul]
    omega
theorem numB_small {x : Nat} (h : x ≤ 4294967295) : (numB x).length ≤ 9 := by rw [numB_len]; have := szN_4 h; omega
def fewB : Nat → Nat
  | 0 => 0
  | n + 1 => 8 * fewB n + 700
theorem few_len : ∀ (n : Nat) (v : V), fewV n v = true → WfV v → (encV v).length ≤ fewB n
  | 0, _, h, _ => by simp [fewV] at h
  | n + 1, v, h, hw => by
    obtain ⟨h1, h2, h3, h4, h5⟩ := few_parts h
    have hl := flat_bound encV (fewB n) v.list fun x hx => few_len n x (h4 x hx) (hw.l x hx)
    have hf := flat_bound fieldB (fewB n + 60) v.fields fun f hf => by
      have hh := few_len n f.val (h5 f hf).2 (hw.f f hf)
      have hn := numB_small (x := f.name.length) (by have := (h5 f hf).1; omega)
      have := (h5 f hf).1
      simp only [fieldB, textB, List.length_append]
      omega
    have m1 : v.list.length * fewB n ≤ 8 * fewB n := Nat.mul_le_mul_right _ h1
    have m2 : v.fields.length * (fewB n + 60) ≤ 8 * (fewB n + 60) := Nat.mul_le_mul_right _ h2
    have n1 := numB_small (x := v.list.length) (by omega)
    have n2 := numB_small (x := v.fields.length) (by omega)
    have n3 := numB_small (x := v.text.length) (by omega)
    have hz : zigN v.num < 18446744073709551616 := zig_lt (by have := hw.n; unfold i64 at this; omega) (by have := hw.n; unfold i64 at this; omega)
    have n4 := numB_small (x := zigN v.num / 4294967296) (by omega)
    have n5 := numB_small (x := zigN v.num % 4294967296) (by omega)
    rw [encV_eq]
    simp only [fewB, List.length_cons]
    split
    · simp [flagB]
    · split
      · simp only [intB, List.length_append]; omega
      · split
        · simp only [textB, List.length_append]; omega
        · split
          · simp only [List.length_append]; omega
          · split
            · simp only [List.length_append]; omega
            · simp
def valsV (k : Int) (y : Bool) (i : Int) (tx : List UInt8) (ls : List V) (fs : List F) : Bool := (k == 1 || y == false) && (k == 2 || i == 0) && (k == 3 || tx == []) && (k == 4 || ls.isEmpty) && (k == 5 || fs.isEmpty)
theorem only_vals (k : Int) (y : Bool) (i : Int) (tx : List UInt8) (ls : List V) (fs : List F) : onlyV (.mk k y i tx ls fs) = (decide (0 ≤ k) && decide (k ≤ 5) && valsV k y i tx ls fs) := by
  simp only [onlyV, valsV, V.kind, V.yes, V.num, V.text, V.list, V.fields, Bool.and_assoc]
  rfl
theorem right_novals {D : Nat} {k : Int} {y : Bool} {i : Int} {tx : List UInt8} {ls : List V} {fs : List F} (h : valsV k y i tx ls fs = false) : rightV D (.mk k y i tx ls fs) = false := by
  cases D with
  | zero => rfl
  | succ d =>
    have h1 : onlyV (.mk k y i tx ls fs) = false := by rw [only_vals, h]; simp
    simp only [rightV, h1, Bool.false_and]
theorem few_bad1 {n : Nat} {k : Int} {y : Bool} {i : Int} {tx : List UInt8} {ls : List V} {fs : List F} (h : n = 0 ∨ 8 < ls.length ∨ 8 < fs.length ∨ 200 < tx.length) : fewV n (.mk k y i tx ls fs) = false := by
  cases n with
  | zero => rfl
  | succ n =>
    have : fewTop (.mk k y i tx ls fs) = false := by
      show (decide (ls.length ≤ 8) && decide (fs.length ≤ 8) && decide (tx.length ≤ 200)) = false
      rw [Bool.eq_false_iff]
      intro h1
      simp only [Bool.and_eq_true, decide_eq_true_eq] at h1
      omega
    simp [fewV, this]
end Go.AV.Val
namespace Go.AV.Val
open Go.AV.Ord Go.AV.Oct
theorem small_nest : ∀ n, SmallV (nestV n)
  | 0 => small_int 5
  | n + 1 => .mk _ _ _ _ _ _ (by simp) (by simp) (fun x h => by rcases List.mem_singleton.1 h with rfl; exact small_nest n) (fun _ h => by cases h)
end Go.AV.Val
namespace Go.AV.Val
open Go.AV.Ord Go.AV.Oct
def cmpNs (a b : List Int) : Int := cmpL (a.map ofInt) (b.map ofInt)
theorem cmpNs_sgn : ∀ (a b : List Int), cmpNs a b = -1 ∨ cmpNs a b = 0 ∨ cmpNs a b = 1
  | [], [] => by simp [cmpNs, cmpL_nn]
  | [], _ :: _ => by simp [cmpNs, cmpL_nc]
  | _ :: _, [] => by simp [cmpNs, cmpL_cn]
  | x :: a, y :: b => by
    have ih := cmpNs_sgn a b
    simp only [cmpNs, List.map_cons] at ih ⊢
    rw [cmpL_cons, cmp_int]
    unfold cmpI
    by_cases h1 : x < y
    · simp [h1]
    · by_cases h2 : y < x
      · simp [h1, h2]
      · simpa [h1, h2] using ih
end Go.AV.Val
namespace Go.AV.Val
end Go.AV.Val
namespace Go.AV.Val
open Go.AV.Ord Go.AV.Oct
def putF : List F → F → List F
  | [], f => [f]
  | g :: l, f => if Op.bytesLess g.name f.name then g :: putF l f else if g.name == f.name then f :: l else f :: g :: l
def ofF (fs : List F) : List F := fs.foldl putF []
def ofMapV (fs : List F) : V := .mk 5 false 0 [] [] (ofF fs)
def posF : List F → List UInt8 → Nat
  | [], _ => 0
  | g :: l, n => if Op.bytesLess g.name n then posF l n + 1 else 0
def hasF (l : List F) (n : List UInt8) : Bool := match l[posF l n]? with
  | some g => g.name == n
  | none => false
theorem posF_le : ∀ (l : List F) (n : List UInt8), posF l n ≤ l.length
  | [], _ => Nat.le_refl _
  | g :: l, n => by
    have := posF_le l n
    simp only [posF]
    split
    · simp; omega
    · simp
theorem putF_has : ∀ (l : List F) (f : F), hasF l f.name = true → putF l f = l.set (posF l f.name) f
  | [], f, h => by simp [hasF, posF] at h
  | g :: l, f, h => by
    have ih := putF_has l f
    simp only [hasF, posF, putF] at h ih ⊢
    by_cases h1 : Op.bytesLess g.name f.name = true
    · rw [if_pos h1] at h ⊢
      rw [if_pos h1, List.getElem?_cons_succ] at *
      rw [ih h]; rfl
    · rw [if_neg h1] at h ⊢
      rw [if_neg h1] at *
      simp only [List.getElem?_cons_zero] at h
      rw [if_pos h]; rfl
theorem putF_new : ∀ (l : List F) (f : F), hasF l f.name = false → putF l f = l.take (posF l f.name) ++ f :: l.drop (posF l f.name)
  | [], f, _ => rfl
  | g :: l, f, h => by
    have ih := putF_new l f
    simp only [hasF, posF, putF] at h ih ⊢
    by_cases h1 : Op.bytesLess g.name f.name = true
    · rw [if_pos h1] at h ⊢
      rw [if_pos h1, List.getElem?_cons_succ] at *
      rw [ih h]; rfl
    · rw [if_neg h1] at h ⊢
      rw [if_neg h1] at *
      simp only [List.getElem?_cons_zero] at h
      rw [if_neg (by simp [h])]; rfl
theorem rises_tail {g : F} {l : List F} (h : rises (g :: l) = true) : rises l = true := by
  cases l with
  | nil => rfl
  | cons a l => simp only [rises, Bool.and_eq_true] at h; exact h.2
theorem rises_all : ∀ {g : F} {l : List F}, rises (g :: l) = true → ∀ x ∈ l, Op.bytesLess g.name x.name = true
  | g, a :: l, h, x, hx => by
    have h1 : Op.bytesLess g.name a.name = true := by simp only [rises, Bool.and_eq_true] at h; exact h.1
    rcases List.mem_cons.1 hx with rfl | hx
    · exact h1
    · exact less_trans h1 (rises_all (rises_tail h) x hx)
theorem posF_c1 {a : F} {l : List F} {n : List UInt8} (h : Op.bytesLess a.name n = true) : posF (a :: l) n = posF l n + 1 := by simp [posF, h]
theorem posF_c0 {a : F} {l : List F} {n : List UInt8} (h : ¬ Op.bytesLess a.name n = true) : posF (a :: l) n = 0 := by simp [posF, h]
theorem posF_lt : ∀ {l : List F} {n : List UInt8} {k : Nat} {g : F}, rises l = true → l[k]? = some g → (Op.bytesLess g.name n = true ↔ k < posF l n)
  | a :: l, n, 0, g, _, hk => by
    simp only [List.getElem?_cons_zero, Option.some.injEq] at hk
    subst hk
    by_cases h1 : Op.bytesLess a.name n = true
    · rw [posF_c1 h1]; simp [h1]
    · rw [posF_c0 h1]; simp [h1]
  | a :: l, n, k + 1, g, h, hk => by
    rw [List.getElem?_cons_succ] at hk
    by_cases h1 : Op.bytesLess a.name n = true
    · rw [posF_c1 h1, posF_lt (rises_tail h) hk]; omega
    · rw [posF_c0 h1]
      have h2 := rises_all h g (List.mem_of_getElem? hk)
      exact ⟨fun h3 => absurd (less_trans h2 h3) h1, fun h3 => by omega⟩
theorem cb_byL : ∀ a b : List UInt8, Lib.compareBytes a b = byL a b
  | [], [] => by simp [Lib.compareBytes, byL_self]
  | [], b :: bs => by simp [Lib.compareBytes, byL, Op.bytesLess]
  | a :: as1, [] => by simp [Lib.compareBytes, byL, Op.bytesLess]
  | a :: as1, b :: bs => by
    have ih := cb_byL as1 bs
    simp only [Lib.compareBytes]
    by_cases h1 : a < b
    · rw [if_pos h1]
      have : Op.bytesLess (a :: as1) (b :: bs) = true := by simp [Op.bytesLess, h1]
      rw [byL_lt this]
    · rw [if_neg h1]
      by_cases h2 : b < a
      · rw [if_pos h2]
        have : Op.bytesLess (b :: bs) (a :: as1) = true := by simp [Op.bytesLess, h2]
        rw [byL_gt this]
      · rw [if_neg h2]
        have e : a = b := by
          apply UInt8.toNat_inj.1
          have h3 : ¬ a.toNat < b.toNat := fun h => h1 (UInt8.lt_iff_toNat_lt.2 h)
          have h4 : ¬ b.toNat < a.toNat := fun h => h2 (UInt8.lt_iff_toNat_lt.2 h)
          omega
        subst e
        rw [ih]
        exact (byL_append [a] as1 bs).symm
theorem cb_eq {a b : List UInt8} : Lib.compareBytes a b = 0 ↔ a = b := by
  rw [cb_byL]
  exact ⟨byL_zero, fun h => by subst h; exact byL_self _⟩
theorem flat_take' {sz : Nat} : ∀ {ys : List DV}, (∀ y ∈ ys, y.cells.length = sz) → ∀ i, flat (ys.take i) = (flat ys).take (i * sz)
  | [], _, i => by simp [flat]
  | y :: ys, h, 0 => by simp [flat]
  | y :: ys, h, i + 1 => by
    have ih := flat_take' (ys := ys) (fun z hz => h z (by simp [hz])) i
    have hy := h y (by simp)
    have e : flat (y :: ys) = y.cells ++ flat ys := by simp [flat]
    have e2 : flat (y :: ys.take i) = y.cells ++ flat (ys.take i) := by simp [flat]
    rw [List.take_succ_cons, e2, e, ih, show (i + 1) * sz = y.cells.length + i * sz by rw [hy, Nat.add_mul]; omega, List.take_length_add_append]
theorem flat_drop' {sz : Nat} : ∀ {ys : List DV}, (∀ y ∈ ys, y.cells.length = sz) → ∀ i, flat (ys.drop i) = (flat ys).drop (i * sz)
  | [], _, i => by simp [flat]
  | y :: ys, h, 0 => by simp [flat]
  | y :: ys, h, i + 1 => by
    have ih := flat_drop' (ys := ys) (fun z hz => h z (by simp [hz])) i
    have hy := h y (by simp)
    have e : flat (y :: ys) = y.cells ++ flat ys := by simp [flat]
    rw [List.drop_succ_cons, e, ih, show (i + 1) * sz = y.cells.length + i * sz by rw [hy, Nat.add_mul]; omega, List.drop_length_add_append]
def fcells (l : List F) : List AV := (flat (l.map fD)).map .d
theorem fsz (l : List F) : ∀ y ∈ l.map fD, y.cells.length = 7 := by
  intro y hy
  obtain ⟨f, _, rfl⟩ := List.mem_map.1 hy
  exact fC_len f
theorem fcells_take (l : List F) (i : Nat) : fcells (l.take i) = (fcells l).take (i * 7) := by
  rw [fcells, fcells, List.map_take, flat_take' (fsz l), List.map_take]
theorem fcells_drop (l : List F) (i : Nat) : fcells (l.drop i) = (fcells l).drop (i * 7) := by
  rw [fcells, fcells, List.map_drop, flat_drop' (fsz l), List.map_drop]
theorem fcells_append (l m : List F) : fcells (l ++ m) = fcells l ++ fcells m := by
  simp [fcells, flat]
theorem fcells_cons (f : F) (m : List F) : fcells (f :: m) = (fC f).map .d ++ fcells m := by
  simp only [fcells, flat, List.map_cons, List.flatMap_cons, List.map_append]
  rfl
theorem rises_set {l : List F} {k : Nat} {f g : F} (hr : rises l = true) (h : l[k]? = some g) (hn : g.name = f.name) : rises (l.set k f) = true := by
  induction l generalizing k with
  | nil => rfl
  | cons a l ih =>
    cases k with
    | zero =>
      simp only [List.getElem?_cons_zero, Option.some.injEq] at h
      subst h
      cases l with
      | nil => rfl
      | cons b l => simp only [rises, List.set_cons_zero, Bool.and_eq_true] at hr ⊢; rw [← hn]; exact hr
    | succ k =>
      rw [List.getElem?_cons_succ] at h
      have h1 := ih (rises_tail hr) h
      cases l with
      | nil => simp at h
      | cons b l =>
        cases k with
        | zero =>
          simp only [List.getElem?_cons_zero, Option.some.injEq] at h
          subst h
          simp only [rises, List.set_cons_succ, List.set_cons_zero, Bool.and_eq_true] at hr h1 ⊢
          exact ⟨by rw [← hn]; exact hr.1, h1⟩
        | succ k =>
          simp only [rises, List.set_cons_succ, Bool.and_eq_true] at hr h1 ⊢
          exact ⟨hr.1, h1⟩
theorem putF_name {l : List F} {f x : F} (h : x ∈ putF l f) : x = f ∨ x ∈ l := by
  induction l with
  | nil => simp [putF] at h; exact .inl h
  | cons g l ih =>
    simp only [putF] at h
    split at h
    · rcases List.mem_cons.1 h with rfl | h
      · exact .inr (by simp)
      · rcases ih h with h | h
        · exact .inl h
        · exact .inr (by simp [h])
    · split at h
      · rcases List.mem_cons.1 h with rfl | h
        · exact .inl rfl
        · exact .inr (by simp [h])
      · rcases List.mem_cons.1 h with rfl | h
        · exact .inl rfl
        · exact .inr h
theorem rises_cons {g : F} {l : List F} (h1 : ∀ x ∈ l, Op.bytesLess g.name x.name = true) (h2 : rises l = true) : rises (g :: l) = true := by
  cases l with
  | nil => rfl
  | cons a l => simp only [rises, Bool.and_eq_true]; exact ⟨h1 a (by simp), h2⟩
theorem putF_rises {l : List F} (f : F) (h : rises l = true) : rises (putF l f) = true := by
  induction l with
  | nil => rfl
  | cons g l ih =>
    have hall := rises_all h
    simp only [putF]
    split
    · rename_i h1
      refine rises_cons (fun x hx => ?_) (ih (rises_tail h))
      rcases putF_name hx with rfl | hx
      · exact h1
      · exact hall x hx
    · rename_i h1
      split
      · rename_i h2
        have h2 : g.name = f.name := by simpa using h2
        exact rises_cons (fun x hx => by rw [← h2]; exact hall x hx) (rises_tail h)
      · rename_i h2
        have h2 : ¬ g.name = f.name := by simpa using h2
        have h3 : Op.bytesLess f.name g.name = true := by
          rw [less_total h2]; simpa using h1
        exact rises_cons (fun x hx => by
          rcases List.mem_cons.1 hx with rfl | hx
          · exact h3
          · exact less_trans h3 (hall x hx)) h
theorem foldl_rises : ∀ (fs l : List F), rises l = true → rises (fs.foldl putF l) = true
  | [], _, h => h
  | f :: fs, l, h => foldl_rises fs (putF l f) (putF_rises f h)
theorem ofF_rises (fs : List F) : rises (ofF fs) = true := foldl_rises fs [] rfl
theorem putF_len (l : List F) (f : F) : (putF l f).length ≤ l.length + 1 := by
  induction l with
  | nil => simp [putF]
  | cons g l ih =>
    simp only [putF]
    split
    · simp; exact ih
    · split <;> simp
theorem foldl_len : ∀ (fs l : List F), (fs.foldl putF l).length ≤ l.length + fs.length
  | [], _ => by simp
  | f :: fs, l => by
    have h1 := foldl_len fs (putF l f)
    have h2 := putF_len l f
    simp only [List.foldl_cons, List.length_cons]
    omega
theorem ofF_len (fs : List F) : (ofF fs).length ≤ fs.length := by
  have h := foldl_len fs []
  rw [List.length_nil, Nat.zero_add] at h
  exact h
theorem foldl_mem : ∀ (fs l : List F) (x : F), x ∈ fs.foldl putF l → x ∈ l ∨ x ∈ fs
  | [], _, _, h => .inl h
  | f :: fs, l, x, h => by
    rcases foldl_mem fs (putF l f) x h with h | h
    · rcases putF_name h with rfl | h
      · exact .inr (by simp)
      · exact .inl h
    · exact .inr (by simp [h])
theorem ofF_mem {fs : List F} {x : F} (h : x ∈ ofF fs) : x ∈ fs := by
  rcases foldl_mem fs [] x h with h | h
  · cases h
  · exact h
end Go.AV.Val
namespace Go.AV.Val
open Go.AV.Ord Go.AV.Oct
abbrev ArrF (H : HS) (tF : TypeId) (v : AV) (l : List F) : Prop := Arr H tF 7 v l.length (fcells l)
theorem Arr.pos {H : HS} {e : TypeId} {sz n : Nat} {v : AV} {us : List AV} (h : Arr H e sz v n us) (hn : 0 < n) : ∃ id cap cs, v = .arr id n cap ∧ H.blks[id]? = some ⟨e, cs, false⟩ ∧ cs.length = cap * sz ∧ n ≤ cap ∧ cs.take (n * sz) = us := by
  cases h with
  | nil => omega
  | arr id n cap cs us hb hc hnc hu => exact ⟨id, cap, cs, rfl, hb, hc, hnc, hu⟩
theorem Arr.or {H : HS} {e : TypeId} {sz n : Nat} {v : AV} {us : List AV} (h : Arr H e sz v n us) : v = nilS ∨ ∃ id cap, v = .arr id n cap := by
  cases h with
  | nil => exact .inl rfl
  | arr id n cap => exact .inr ⟨id, cap, rfl⟩
theorem Arr.mono {H H' : HS} {e : TypeId} {sz n : Nat} {v : AV} {us : List AV} (h : Arr H e sz v n us) (hk : ∀ id n cap, v = .arr id n cap → H'.blks[id]? = H.blks[id]?) : Arr H' e sz v n us := by
  cases h with
  | nil => exact .nil
  | arr id n cap cs us hb hc hnc hu => exact .arr id n cap cs us (by rw [hk _ _ _ rfl]; exact hb) hc hnc hu
section
variable {P : Program} {E : Operand → AV} {H : HS} {dst : Option Tmp} {ty : TypeId} {pos : String} {after : Array Edge} {gd : Option (Nat × Bool)}
theorem op_lenA {x : Operand} {t e e' : TypeId} {sz n : Nat} {v : AV} {us : List AV} (ht : P.underlying t = some (.slice e')) (hx : E x = v) (h : Arr H e sz v n us) {H' : HS} : OpR P ⟨dst, .call ⟨.builtin .len, #[x], #[t]⟩, ty, pos, after, gd⟩ E H' (Ret (.d (I n)) H') := by
  cases h with
  | nil =>
    refine opR_pure fun c w a hm hops => ?_
    have h1 := hops x (by simp [Op.operands, Call.operands])
    rw [hx] at h1
    exact ⟨.int .i64 0, by simp [execOp, resolve, invoke, builtin, h1.v_eq, Builtin.len_, run_underlying ht, goInt], .d (.v _ rfl)⟩
  | arr => exact op_lenArr ht hx
end
theorem putL_drop : ∀ (vs cs : List AV) (k m : Nat), k + vs.length ≤ m → (putL cs k vs).drop m = cs.drop m
  | [], cs, k, m, _ => rfl
  | v :: vs, cs, k, m, h => by
    simp only [List.length_cons] at h
    show (putL (cs.set k v) (k + 1) vs).drop m = _
    rw [putL_drop vs (cs.set k v) (k + 1) m (by omega), List.drop_set_of_lt (by omega)]
theorem putL_eq {cs vs : List AV} {k : Nat} (h : k + vs.length ≤ cs.length) : putL cs k vs = cs.take k ++ (vs ++ cs.drop (k + vs.length)) := by
  rw [← List.append_assoc, ← putL_take vs cs k h, ← putL_drop vs cs k (k + vs.length) (Nat.le_refl _), List.take_append_drop]
theorem set_cells {cs : List AV} {l : List F} {k : Nat} {f g : F} (hu : cs.take (l.length * 7) = fcells l) (h : l[k]? = some g) (hl : l.length * 7 ≤ cs.length) : (putL cs (k * 7) ((fC f).map .d)).take ((l.set k f).length * 7) = fcells (l.set k f) := by
  have hk : k < l.length := (List.getElem?_eq_some_iff.1 h).1
  have e : l.set k f = l.take k ++ f :: l.drop (k + 1) := by rw [List.set_eq_take_append_cons_drop, if_pos hk]
  have hx : ((fC f).map AV.d).length = 7 := by rw [List.length_map, fC_len]
  rw [List.length_set, e, fcells_append, fcells_cons, fcells_take, fcells_drop, ← hu]
  rw [putL_eq (by rw [hx]; omega), hx]
  rw [List.take_take, Nat.min_eq_left (by omega)]
  have hA : (cs.take (k * 7)).length = k * 7 := by rw [List.length_take]; omega
  rw [List.take_append, hA, List.take_of_length_le (show (cs.take (k * 7)).length ≤ l.length * 7 by rw [hA]; omega), List.take_append, hx, List.take_of_length_le (show ((fC f).map AV.d).length ≤ l.length * 7 - k * 7 by rw [hx]; omega), List.drop_take]
  rw [show k * 7 + 7 = (k + 1) * 7 by omega, show l.length * 7 - k * 7 - 7 = l.length * 7 - (k + 1) * 7 by omega]
structure InsR (Hs : HS) (tF : TypeId) (v : AV) (l : List F) (av : AV) (H' : HS) : Prop where
  arr : ArrF H' tF av l
  kept : Kept Hs H' v
  new : ∀ id n c, av = .arr id n c → Hs.nb ≤ id ∨ ∃ n c, v = .arr id n c
end Go.AV.Val
namespace Go.AV.Val
open Go.AV.Ord Go.AV.Oct
theorem Arr.idlt {H : HS} {e : TypeId} {sz n : Nat} {v : AV} {us : List AV} (h : Arr H e sz v n us) {id m c : Nat} (hv : v = .arr id m c) : id < H.nb := by
  cases h with
  | nil => cases hv
  | arr id n cap cs us hb hc hnc hu => cases hv; exact lt_nb hb
theorem ArrF.set {H : HS} {tF : TypeId} {id cap k : Nat} {cs : List AV} {l : List F} {x g : F} (hb : H.blks[id]? = some ⟨tF, cs, false⟩) (hc : cs.length = cap * 7) (hcap : l.length ≤ cap) (hu : cs.take (l.length * 7) = fcells l) (hg : l[k]? = some g) :
    ArrF (H.setB id ⟨tF, putL cs (k * 7) ((fC x).map .d), false⟩) tF (.arr id l.length cap) (l.set k x) := by
  have h := Arr.arr (H := H.setB id ⟨tF, putL cs (k * 7) ((fC x).map .d), false⟩) (e := tF) (sz := 7) id (l.set k x).length cap _ _ (setB_at hb) (by rw [putL_length]; exact hc) (by rw [List.length_set]; exact hcap) rfl
  rw [set_cells (f := x) hu hg (by omega)] at h
  unfold ArrF
  rw [show AV.arr id l.length cap = .arr id (l.set k x).length cap by rw [List.length_set]]
  exact h
section
variable {P : Program} {T : List AV} {H : HS} {dst : Option Tmp} {ty : TypeId} {pos : String} {after : Array Edge} {gd : Option (Nat × Bool)}
end
end Go.AV.Val
namespace Go.AV
open Go.RowKit
section
variable {P : Program} {E : Operand → AV} {H : HS} {dst : Option Tmp} {ty : TypeId} {pos : String} {after : Array Edge} {gd : Option (Nat × Bool)}
theorem equalIn_slice0 (w : World) (d : Nat) {t el : TypeId} (ht : P.underlying t = some (.slice el)) (a : Option Addr) (n c : Nat) : (Op.equalIn (d + 1) t (.slice a n c) (.slice none 0 0)).run P w = .ok a.isNone w := by
  cases a <;> simp [Op.equalIn, run_underlying ht]
theorem op_nilL {x y : Operand} {t t' el : TypeId} {sz : Nat} {xs : List DV} (ht : P.underlying t = some (.slice el)) (hx : LL (E x) sz xs) (hy : E y = nilS) :
    OpR P ⟨dst, .binOp .eql t x y t', ty, pos, after, gd⟩ E H (fun av H' => ∃ b, av = .d (TF b) ∧ (b = true → xs = []) ∧ H = H') :=
  opR_value fun B w0 c w a hI hops => by
    have h1 := hops x (by simp [Op.operands])
    have h2 := hops y (by simp [Op.operands])
    rw [hy] at h2
    obtain ⟨ad, n, cap, e, hr⟩ := hx.rep h1
    have hb : (binOp .eql t (.slice ad n cap) (.slice none 0 0)).run P w = .ok (.bool ad.isNone) w := by
      simp only [binOp]
      simp [Op.equal, Op.maxDepth, equalIn_slice0 w 9999 ht]
    refine ⟨.bool ad.isNone, w, c, .d (TF ad.isNone), H, ?_, Le.refl c, .d (.v _ rfl), hI, ad.isNone, rfl, fun h => ?_, rfl⟩
    · simp [execOp, e, h2.v_eq, eqGuard, hb]
    · cases hr with
      | lst => cases h
      | lstE => rfl
def clT (H : HS) : List DV → Option Nat
  | [] => none
  | _ :: _ => some (H.tk none)
def clH (H : HS) : List DV → HS
  | [] => H
  | x :: xs => H.up none (x :: xs).length
theorem clOk (H : HS) (xs : List DV) : (clH H xs).ok (clT H xs) xs.length := by
  cases xs with
  | nil => exact HS.ok_none _ _
  | cons x xs => exact HS.ok_up H none _ (HS.ok_none H 0)
theorem clH_blks (H : HS) (xs : List DV) : (clH H xs).blks = H.blks := by
  cases xs with
  | nil => rfl
  | cons x xs => simp [clH, HS.up_blks]
theorem clExt {B H : HS} (h : Ext B H) (xs : List DV) : Ext B (clH H xs) := by
  cases xs with
  | nil => exact h
  | cons x xs => exact h.new _
theorem clNew {B H : HS} (h : Ext B H) (xs : List DV) : NewTok B (clT H xs) := by
  obtain ⟨l, hl⟩ := h.toks
  cases xs with
  | nil => exact NewTok.none _
  | cons x xs => intro i hi; cases hi; simp [HS.tk, hl]
end
end Go.AV
namespace Go.AV
open Go.RowKit
section
variable {P : Program} {E : Operand → AV} {H : HS} {dst : Option Tmp} {ty : TypeId} {pos : String} {after : Array Edge} {gd : Option (Nat × Bool)}
end
theorem ACalls.tidyP2 {P : Program} {f : FuncId} {args : List AV} {H : HS} {m : List DV} {ed : DV} (h1 : ∀ d ∈ m, d.one = true)
    (h : ACalls P f args H fun av H' => Ext H H' ∧ ∃ l, av = .tup [.agg l, .d ed] ∧ (Weaks l (m.map .d) ∨ ∃ id n cap sz xs b, H.nb ≤ id ∧ H'.blks[id]? = some b ∧ b.cs.take (flat xs).length = (flat xs).map .d ∧ (flat xs).length ≤ b.cs.length ∧ xs.length = n ∧ n ≤ cap ∧ (∀ x ∈ xs, x.cells.length = sz) ∧ (∀ d ∈ flat xs, d.one = true) ∧ Becomes id n cap sz xs l m)) :
    ACalls P f args H (Ret (.tup [.d (.agg m), .d ed]) H) := by
  intro B w0 c w vs hI hs ha
  refine (h B w0 c w vs hI hs ha).mono ?_
  rintro e w' ⟨v, av, H', c', rfl, q1, q2, q3, ⟨⟨l1, h5⟩, ⟨l2, h6⟩, hmm⟩, l, rfl, hl⟩
  have hcut : H'.cut H.blks.length H.toks.length = H := by
    cases H
    simp only [HS.cut, h5, h6, List.take_left, hmm]
  have hfit : ∀ i b, i < H.blks.length → H'.blks[i]? = some b → ∀ j (hj : j < b.cs.length), Fits H.blks.length H.toks.length b.cs[j] := fun i b hi hb j hj => by
    have hb' : H.blks[i]? = some b := by rw [h5, List.getElem?_append_left (by omega)] at hb; exact hb
    have hlt : i < c.blk.length := by rw [hI.blkLen]; exact hi
    obtain ⟨_, _, cur, fr, _, _, _, q⟩ := hI.blk i _ b (List.getElem?_eq_getElem hlt) hb'
    have := (q j hj).fits
    rwa [hI.blkLen, hI.tokLen] at this
  have hblk : ∀ (i g : Nat), c.blk[i]? = some g → (c'.blk.take H.blks.length)[i]? = some g := fun i g hi => by
    have : i < c.blk.length := (List.getElem?_eq_some_iff.1 hi).1
    rw [List.getElem?_take, if_pos (by have := hI.blkLen; omega)]
    exact q1.blk i g hi
  have htok : ∀ (i : Nat) (e : Tok), c.tok[i]? = some e → ∃ e' : Tok, (c'.tok.take H.toks.length)[i]? = some e' ∧ (e' = e ∨ e.mark < e'.mark) := fun i e he => by
    have : i < c.tok.length := (List.getElem?_eq_some_iff.1 he).1
    obtain ⟨e', q1, q2⟩ := q1.tok i e he
    refine ⟨e', ?_, q2⟩
    rw [List.getElem?_take, if_pos (by have := hI.tokLen; omega)]
    exact q1
  have hv2 : ∃ u0 u1 : Value, v = .tuple #[u0, u1] ∧ Rep c' u0 (.agg l) ∧ Rep c' u1 (.d ed) := by
    generalize ha : AV.tup [AV.agg l, .d ed] = av at q2
    cases q2 with
    | tup us cs hl hr =>
      cases ha
      obtain ⟨ul⟩ := us
      match ul, hl with
      | [u0, u1], _ => exact ⟨u0, u1, rfl, hr 0 (by simp), hr 1 (by simp)⟩
    | _ => cases ha
  obtain ⟨u0, u1, rfl, q2a, q2b⟩ := hv2
  have hv : ∃ us : Array Value, u0 = .agg us ∧ us.size = l.length ∧ ∀ i (hi : i < l.length), Rep c' (us.getD i undef) l[i] := by
    generalize ha : AV.agg l = av at q2a
    cases q2a with
    | agg us cs hl hr => cases ha; exact ⟨us, rfl, hl, hr⟩
    | _ => cases ha
  obtain ⟨us, rfl, hul, hur⟩ := hv
  have two : ∀ {k : Ctx}, Rep k (.agg us) (.d (.agg m)) → Rep k u1 (.d ed) → Rep k (.tuple #[.agg us, u1]) (.tup [.d (.agg m), .d ed]) := fun h1 h2 => .tup _ _ rfl fun i hi => by
    match i, hi with
    | 0, _ => exact h1
    | 1, _ => exact h2
  rcases hl with hw | ⟨id, n, cap, sz, xs, b, hid, hb, hd, hlen, hxn, hnc, hsz, hone, hbec⟩
  · have i1 := q3.cut H.blks.length H.toks.length hfit
    rw [hcut] at i1
    refine ⟨.tuple #[.agg us, u1], .tup [.d (.agg m), .d ed], H, c'.cut H.blks.length H.toks.length, rfl, ⟨q1.mem, hblk, htok, q1.maps⟩, two (.d (.agg us m (by rw [hul, hw.len, List.length_map]) h1 fun i hi => ?_)) (.d (q2b.d_inv.mono (fun _ _ _ h => h))), i1, rfl, rfl⟩
    have := hw.get c' (fun i => us.getD i undef) hur i (by rw [List.length_map]; exact hi)
    rw [List.getElem_map] at this
    exact this.d_inv.mono (fun _ _ _ h => h)
  · have hidl : id < c'.blk.length := by rw [q3.blkLen]; exact (List.getElem?_eq_some_iff.1 hb).1
    obtain ⟨vals, i1, m1, m2, m3⟩ := q3.protect id _ b (List.getElem?_eq_getElem hidl) hb H.blks.length H.toks.length hid hfit (flat xs) hd hlen
    rw [hcut] at i1
    refine ⟨.tuple #[.agg us, u1], .tup [.d (.agg m), .d ed], H, _, rfl, ⟨fun g o u hm => m1 g o u (q1.mem g o u hm), hblk, htok, q1.maps⟩, two (.d (.agg us m (by rw [hul, hbec.len]) h1 ?_)) (.d (q2b.d_inv.mono m1)), i1, rfl, rfl⟩
    refine hbec.get (c := c') m1 (fun y hy => ?_) (fun i => us.getD i undef) hur
    obtain ⟨g, hg, rfl⟩ := arr_val hy
    rw [List.getElem?_eq_getElem hidl] at hg
    cases hg
    exact .lst _ 0 n cap sz xs vals hxn hnc hsz hone (fun i hi => by rw [Nat.zero_add]; exact m2 i hi) (fun i hi => (m3 i hi).mono m1)
end Go.AV
namespace Go.AV
open Go.RowKit
def getE : List (List UInt8 × DV) → List UInt8 → Option DV
  | [], _ => none
  | e :: es, k => if e.1 = k then some e.2 else getE es k
def putE : List (List UInt8 × DV) → List UInt8 → DV → List (List UInt8 × DV)
  | [], k, v => [(k, v)]
  | e :: es, k, v => if e.1 = k then (k, v) :: es else e :: putE es k v
def delE : List (List UInt8 × DV) → List UInt8 → List (List UInt8 × DV)
  | [], _ => []
  | e :: es, k => if e.1 = k then es else e :: delE es k
def atE : List (List UInt8 × DV) → List UInt8 → Option Nat
  | [], _ => none
  | e :: es, k => if e.1 = k then some 0 else (atE es k).map (· + 1)
theorem atE_none : ∀ {es : List (List UInt8 × DV)} {k : List UInt8}, atE es k = none → getE es k = none ∧ (∀ v, putE es k v = es ++ [(k, v)]) ∧ delE es k = es
  | [], _, _ => ⟨rfl, fun _ => rfl, rfl⟩
  | e :: es, k, h => by
    by_cases hk : e.1 = k
    · simp [atE, hk] at h
    · simp only [atE, if_neg hk, Option.map_eq_none_iff] at h
      obtain ⟨h1, h2, h3⟩ := atE_none h
      exact ⟨by simp [getE, hk, h1], fun v => by simp [putE, hk, h2], by simp [delE, hk, h3]⟩
theorem atE_some : ∀ {es : List (List UInt8 × DV)} {k : List UInt8} {i : Nat}, atE es k = some i → ∃ d, es[i]? = some (k, d) ∧ getE es k = some d ∧ (∀ v, putE es k v = es.set i (k, v)) ∧ delE es k = es.eraseIdx i
  | [], _, _, h => by simp [atE] at h
  | e :: es, k, i, h => by
    by_cases hk : e.1 = k
    · simp only [atE, if_pos hk, Option.some.injEq] at h
      subst h
      exact ⟨e.2, by rw [← hk]; rfl, by simp [getE, hk], fun v => by simp [putE, hk], by simp [delE, hk]⟩
    · simp only [atE, if_neg hk] at h
      cases hi : atE es k with
      | none => rw [hi] at h; cases h
      | some j =>
        rw [hi] at h
        cases h
        obtain ⟨d, h1, h2, h3, h4⟩ := atE_some hi
        exact ⟨d, by simpa using h1, by simp [getE, hk, h2], fun v => by simp [putE, hk, h3], by simp [delE, hk, h4]⟩
def HS.nm (H : HS) : Nat := H.maps.length
def HS.pushM (H : HS) (m : MB) : HS := { H with maps := H.maps ++ [m] }
def HS.setM (H : HS) (i : Nat) (m : MB) : HS := { H with maps := H.maps.set i m }
theorem MapObj.find {m : Mem} {xs : Array MapEntry} {clock : Nat} {k : List UInt8} : ∀ {l : List MapEntry} {es : List (List UInt8 × DV)} (i0 : Nat) (_ : l.length = es.length) (_ : ∀ i (h : i < es.length), ∃ e, l[i]? = some e ∧ e.key = .string ⟨(es[i]).1.toArray⟩ ∧ RepD m e.val (es[i]).2),
    Instr.findNow .string (.string ⟨k.toArray⟩) l i0 = some ((atE es k).bind fun i => (l[i]?).map fun e => (i0 + i, e.val))
  | [], [], _, _, _ => rfl
  | [], _ :: _, _, h, _ => by simp at h
  | _ :: _, [], _, h, _ => by simp at h
  | e :: l, d :: es, i0, hl, hr => by
    obtain ⟨e', h1, h2, _⟩ := hr 0 (by simp)
    simp only [List.getElem?_cons_zero, Option.some.injEq] at h1
    subst h1
    simp only [List.getElem_cons_zero] at h2
    have ih := MapObj.find (m := m) (xs := xs) (clock := clock) (k := k) (l := l) (es := es) (i0 + 1) (by simpa using hl) fun i hi => by
      have := hr (i + 1) (by simpa using hi)
      simpa using this
    by_cases hk : d.1 = k
    · have hb : ((⟨k.toArray⟩ : ByteArray) == ⟨d.1.toArray⟩) = true := by rw [hk]; exact (MapKept.bytes_beq _ _).2 rfl
      simp only [Instr.findNow, h2, Instr.sameNow, hb, atE, if_pos hk]
      rfl
    · have hb : ((⟨k.toArray⟩ : ByteArray) == ⟨d.1.toArray⟩) = false := by
        cases hh : ((⟨k.toArray⟩ : ByteArray) == ⟨d.1.toArray⟩) with
        | false => rfl
        | true =>
          have := (MapKept.bytes_beq _ _).1 hh
          injection this with this
          exact absurd (by simpa using this.symm) hk
      simp only [Instr.findNow, h2, Instr.sameNow, hb, atE, if_neg hk, ih]
      cases ha : atE es k with
      | none => rfl
      | some j => simp [Nat.add_assoc, Nat.add_comm 1 j]
section
variable {P : Program} {E : Operand → AV} {H : HS} {dst : Option Tmp} {ty : TypeId} {pos : String} {after : Array Edge} {gd : Option (Nat × Bool)}
theorem Inv.allocM {B : Nat} {w0 w : World} {c : Ctx} {H : HS} (h : Inv B w0 c H w) (o : Obj) (m : MB) (ho : MIs c (w.alloc o) m w.heap.size) :
    Inv B w0 { c with maps := c.maps ++ [w.heap.size] } (H.pushM m) (w.alloc o) ∧ Le c { c with maps := c.maps ++ [w.heap.size] } := by
  have hle : Le c { c with maps := c.maps ++ [w.heap.size] } := by
    refine ⟨fun _ _ _ h => h, fun _ _ h => h, fun _ e h => ⟨e, h, .inl rfl⟩, fun i g hi => ?_⟩
    have : i < c.maps.length := (List.getElem?_eq_some_iff.1 hi).1
    show (c.maps ++ [w.heap.size])[i]? = some g
    rw [List.getElem?_append_left this]; exact hi
  have h' := h.alloc o
  have hlt : ∀ i g, c.maps[i]? = some g → g < w.heap.size := fun i g hi => by
    have hil : i < c.maps.length := (List.getElem?_eq_some_iff.1 hi).1
    obtain ⟨_, q⟩ := h.maps.is i g _ hi (List.getElem?_eq_getElem (h.maps.len ▸ hil))
    obtain ⟨o', q1, _⟩ := q.obj
    exact (Array.getElem?_eq_some_iff.1 q1).1
  have cs : ∀ i g, (c.maps ++ [w.heap.size])[i]? = some g → (c.maps[i]? = some g ∧ i < c.maps.length) ∨ (i = c.maps.length ∧ g = w.heap.size) := by
    intro i g hi
    by_cases hlt : i < c.maps.length
    · rw [List.getElem?_append_left hlt] at hi
      exact .inl ⟨hi, hlt⟩
    · rw [List.getElem?_append_right (by omega)] at hi
      have : i - c.maps.length = 0 := by
        have := (List.getElem?_eq_some_iff.1 hi).1
        simp at this; omega
      rw [this] at hi
      simp at hi
      exact .inr ⟨by omega, hi.symm⟩
  refine ⟨⟨h'.base, h'.below, h'.mem, h'.blkLen, fun i g b hg hb => ?_, h'.blkInj, h'.tokLen, h'.tok, h'.tokInj, ?_, fun i j g hi hj => ?_, fun i g m' hg hm => ?_⟩, hle⟩
  · obtain ⟨h1, h2, cur, fr, h3, h4, h5, h6⟩ := h'.blk i g b hg hb
    exact ⟨h1, h2, cur, fr, h3, h4, h5, fun j hj => (h6 j hj).mono hle⟩
  · simp [HS.pushM, h.maps.len]
  · rcases cs i g hi with ⟨hi', _⟩ | ⟨rfl, rfl⟩
    · rcases cs j g hj with ⟨hj', _⟩ | ⟨rfl, rfl⟩
      · exact h.maps.inj i j g hi' hj'
      · have := hlt _ _ hi'; omega
    · rcases cs j _ hj with ⟨hj', _⟩ | ⟨rfl, _⟩
      · have := hlt _ _ hj'; omega
      · rfl
  · rcases cs i g hg with ⟨hi', hl⟩ | ⟨rfl, rfl⟩
    · have hm' : H.maps[i]? = some m' := by
        simp only [HS.pushM] at hm
        rwa [List.getElem?_append_left (by rw [← h.maps.len]; exact hl)] at hm
      obtain ⟨q1, q2⟩ := h.maps.is i g m' hi' hm'
      exact ⟨q1, q2.keep hle (keeps_alloc w o)⟩
    · have : m' = m := by
        simp only [HS.pushM] at hm
        rw [h.maps.len] at hm
        simpa using hm.symm
      subst this
      exact ⟨h.base, ho.keep hle (.refl _)⟩
theorem Inv.setM {B : Nat} {w0 w : World} {c : Ctx} {H : HS} (h : Inv B w0 c H w) (i g : Nat) (m m' : MB) (hg : c.maps[i]? = some g) (hm : H.maps[i]? = some m) (o : Obj) (w' : World) (hw' : w'.heap = w.heap.setIfInBounds g o) (hb : Below B w0 w')
    (ho : MIs c w' m' g) (hoc : ∀ cs e fr, o ≠ Obj.cells cs e fr) (hno : ∀ es, m = .map es → ∀ (j n : Nat) l, H.maps[j]? ≠ some (.iter (some i) n l)) : Inv B w0 c (H.setM i m') w' := by
  obtain ⟨p1, p2⟩ := h.maps.is i g m hg hm
  obtain ⟨o0, p3, p4⟩ := p2.obj
  have hset := MapKept.heap_set (o' := o) p3
  rw [← hw'] at hset
  have hcells : ∀ (k : Nat) cs e fr, w.heap[k]? = some (Obj.cells cs e fr) → w'.heap[k]? = some (Obj.cells cs e fr) := fun k cs e fr hk => by
    rw [hset.2 k (fun hh => by subst hh; rw [p3] at hk; exact p4 _ _ _ (Option.some.inj hk))]
    exact hk
  refine ⟨by rw [hw']; simpa using h.base, hb, fun g' off u hm => ?_, h.blkLen, fun k g' b hk hbk => ?_, h.blkInj, h.tokLen, fun k e he => ?_, h.tokInj, by simpa [HS.setM] using h.maps.len, h.maps.inj, fun j g' mj hj hmj => ?_⟩
  · have h1 := h.mem g' off u hm
    have hne : g' ≠ g := fun hh => by
      subst hh
      cases o0 with
      | cells cs e fr => exact p4 _ _ _ rfl
      | _ => simp [World.cell?, p3] at h1
    simp only [World.cell?] at h1 ⊢
    rw [hset.2 g' hne]
    exact h1
  · obtain ⟨h1, h2, cur, fr, h3, h4⟩ := h.blk k g' b hk hbk
    exact ⟨h1, h2, cur, fr, hcells _ _ _ _ h3, h4⟩
  · obtain ⟨h1, h2, h3, h4, h5, cur, et, fr, h6, h7⟩ := h.tok k e he
    exact ⟨h1, h2, h3, h4, h5, cur, et, fr, hcells _ _ _ _ h6, h7⟩
  · by_cases hij : i = j
    · subst hij
      have e1 : g' = g := by rw [hg] at hj; exact (Option.some.inj hj).symm
      subst e1
      have e2 : mj = m' := by
        have hlt := (List.getElem?_eq_some_iff.1 hm).1
        simp only [HS.setM] at hmj
        rw [List.getElem?_set_self hlt] at hmj
        exact (Option.some.inj hmj).symm
      subst e2
      exact ⟨p1, ho⟩
    · have e1 : H.maps[j]? = some mj := by
        simp only [HS.setM] at hmj
        rwa [List.getElem?_set_ne hij] at hmj
      obtain ⟨q1, q2⟩ := h.maps.is j g' mj hj e1
      have hne : g' ≠ g := fun hh => hij (h.maps.inj i j g hg (hh ▸ hj))
      refine ⟨q1, ?_⟩
      cases q2 with
      | map _ es xs clock hw hx => exact .map _ es xs clock (by rw [hset.2 _ hne]; exact hw) hx
      | iter _ id r n last xs clock seen hmm hr hw hn hd hs hl =>
        by_cases hrg : r = g
        · subst hrg
          have : id = i := h.maps.inj _ _ _ hmm hg
          subst this
          cases p2 with
          | map _ es _ _ _ _ => exact absurd e1 (hno es rfl j n last)
          | iter _ _ _ _ _ _ _ _ _ _ hw2 => rw [hr] at hw2; cases hw2
          | dead _ _ _ _ _ _ _ hw2 => rw [hr] at hw2; cases hw2
        · exact .iter _ id r n last xs clock seen hmm (by rw [hset.2 _ hrg]; exact hr) (by rw [hset.2 _ hne]; exact hw) hn hd hs hl
      | dead _ n last r a b seen hw => exact .dead _ n last r a b seen (by rw [hset.2 _ hne]; exact hw)
theorem Rep.map_inv {c : Ctx} {v : Value} {id : Nat} (h : Rep c v (.map id)) : ∃ g, v = .map (some g) ∧ c.maps[id]? = some g := by
  cases h with
  | map _ g h => exact ⟨g, rfl, h⟩
theorem Rep.iter_inv {c : Ctx} {v : Value} {id : Nat} (h : Rep c v (.iter id)) : ∃ g, v = .pointer (some ⟨g, 0, none⟩) ∧ c.maps[id]? = some g := by
  cases h with
  | iter _ g h => exact ⟨g, rfl, h⟩
theorem MIs.map_inv {c : Ctx} {w : World} {es : List (List UInt8 × DV)} {g : Nat} (h : MIs c w (.map es) g) : ∃ xs clock, w.heap[g]? = some (.map xs clock) ∧ MapObj c.mem es xs clock := by
  cases h with
  | map _ _ xs clock hw h => exact ⟨xs, clock, hw, h⟩
theorem below_set {B : Nat} {w0 w : World} (h : Below B w0 w) {g : Nat} (hg : B ≤ g) (o : Obj) : Below B w0 { w with heap := w.heap.setIfInBounds g o } :=
  h.trans ⟨rfl, rfl, rfl, by simp, fun k hk => by show (w.heap.setIfInBounds g o)[k]? = _; simp [show ¬ g = k by omega]⟩
theorem op_makeMap {t : TypeId} : OpR P ⟨dst, .makeMap t none, ty, pos, after, gd⟩ E H (Ret (.map H.nm) (H.pushM (.map []))) :=
  opR_value fun B w0 c w a hI hops => by
    have hnew := heap_new w (.map #[] 0)
    obtain ⟨i1, l1⟩ := hI.allocM (.map #[] 0) (.map []) (.map _ [] #[] 0 hnew ⟨rfl, by simp, by simp, fun i h => by simp at h⟩)
    refine ⟨.map (some w.heap.size), w.alloc (.map #[] 0), _, .map H.nm, _, ?_, l1, .map _ _ ?_, i1, rfl, rfl⟩
    · simp [execOp, Instr.makeMap]
    · simp [HS.nm, ← hI.maps.len]
theorem MapObj.look {m : Mem} {es : List (List UInt8 × DV)} {xs : Array MapEntry} {clock : Nat} (h : MapObj m es xs clock) (k : List UInt8) :
    (atE es k = none ∧ Instr.findNow .string (.string ⟨k.toArray⟩) xs.toList 0 = some none) ∨
    ∃ i e d, atE es k = some i ∧ xs[i]? = some e ∧ e.key = .string ⟨k.toArray⟩ ∧ getE es k = some d ∧ RepD m e.val d ∧ Instr.findNow .string (.string ⟨k.toArray⟩) xs.toList 0 = some (some (i, e.val)) := by
  have hf := MapObj.find (m := m) (xs := xs) (clock := clock) (k := k) (l := xs.toList) (es := es) 0 (by simpa using h.len) fun i hi => by
    have := h.rep i hi
    simpa using this
  cases ha : atE es k with
  | none => exact .inl ⟨rfl, by rw [hf, ha]; rfl⟩
  | some i =>
    obtain ⟨d, h1, h2, _⟩ := atE_some ha
    have hi := (List.getElem?_eq_some_iff.1 h1).1
    obtain ⟨e, q1, q2, q3⟩ := h.rep i hi
    have he : es[i] = (k, d) := (List.getElem?_eq_some_iff.1 h1).2
    rw [he] at q2 q3
    refine .inr ⟨i, e, d, rfl, q1, q2, h2, q3, ?_⟩
    rw [hf, ha]
    simp [q1]
theorem MapObj.put {m : Mem} {es : List (List UInt8 × DV)} {xs : Array MapEntry} {clock i : Nat} {k : List UInt8} {v : Value} {d : DV} (h : MapObj m es xs clock) (hv : RepD m v d) :
    MapObj m (es.set i (k, d)) (xs.modify i fun e => { e with key := .string ⟨k.toArray⟩, val := v }) clock := by
  have hborn : (xs.modify i fun e => { e with key := .string ⟨k.toArray⟩, val := v }).toList.map (·.born) = xs.toList.map (·.born) := by
    apply List.ext_getElem?
    intro j
    simp only [List.getElem?_map, Array.getElem?_toList, Array.getElem?_modify]
    by_cases hij : i = j
    · subst hij
      cases he : xs[i]? with
      | none => simp
      | some e => simp
    · simp [hij]
  refine ⟨by simpa using h.len, by rw [hborn]; exact h.born, fun x hx => ?_, fun j hj => ?_⟩
  · have : x.born ∈ xs.toList.map (·.born) := by rw [← hborn]; exact List.mem_map.2 ⟨x, hx, rfl⟩
    obtain ⟨y, hy, e⟩ := List.mem_map.1 this
    rw [← e]; exact h.lt y hy
  · have hj' : j < es.length := by simpa using hj
    obtain ⟨e, q1, q2, q3⟩ := h.rep j hj'
    by_cases hij : i = j
    · subst hij
      exact ⟨{ e with key := .string ⟨k.toArray⟩, val := v }, by simp [Array.getElem?_modify, q1], by simp, by simpa using hv⟩
    · exact ⟨e, by simp [Array.getElem?_modify, hij, q1], by simpa [List.getElem_set_ne hij] using q2, by simpa [List.getElem_set_ne hij] using q3⟩
theorem MapObj.push {m : Mem} {es : List (List UInt8 × DV)} {xs : Array MapEntry} {clock : Nat} {k : List UInt8} {v : Value} {d : DV} (h : MapObj m es xs clock) (hv : RepD m v d) :
    MapObj m (es ++ [(k, d)]) (xs.push { key := .string ⟨k.toArray⟩, val := v, born := clock }) (clock + 1) := by
  refine ⟨by simp [h.len], ?_, fun x hx => ?_, fun j hj => ?_⟩
  · simp only [Array.toList_push, List.map_append, List.map_cons, List.map_nil]
    refine List.nodup_append.2 ⟨h.born, by simp, fun a ha b hb => ?_⟩
    simp only [List.mem_singleton] at hb
    subst hb
    obtain ⟨x, hx, rfl⟩ := List.mem_map.1 ha
    exact Nat.ne_of_lt (h.lt x hx)
  · simp only [Array.toList_push, List.mem_append, List.mem_singleton] at hx
    rcases hx with hx | rfl
    · exact Nat.lt_succ_of_lt (h.lt x hx)
    · exact Nat.lt_succ_self _
  · by_cases hlt : j < es.length
    · obtain ⟨e, q1, q2, q3⟩ := h.rep j hlt
      refine ⟨e, ?_, by rw [List.getElem_append_left hlt]; exact q2, by rw [List.getElem_append_left hlt]; exact q3⟩
      have : j < xs.size := by rw [h.len]; exact hlt
      rw [Array.getElem?_push, if_neg (by omega)]
      exact q1
    · have hje : j = es.length := by simp at hj; omega
      subst hje
      refine ⟨_, by rw [← h.len, Array.getElem?_push, if_pos rfl], by simp, by simpa using hv⟩
theorem op_lookup {x k : Operand} {t kt et : TypeId} {z : Value} {id : Nat} {es : List (List UInt8 × DV)} {l : List UInt8} {d0 : DV} (ht : P.underlying t = some (.map kt et)) (hkt : P.underlying kt = some .string) (hz : (P.info? et).map (·.zero) = some (some z))
    (hd : ∀ m, RepD m z d0) (hx : E x = .map id) (hl : E k = .d (S l)) (hm : H.maps[id]? = some (.map es)) : OpR P ⟨dst, .lookup t x k false, ty, pos, after, gd⟩ E H (Ret (.d ((getE es l).getD d0)) H) :=
  opR_value fun B w0 c w a hI hops => by
    have h1 := hops x (by simp [Op.operands])
    have h2 := hops k (by simp [Op.operands])
    rw [hx] at h1
    rw [hl] at h2
    obtain ⟨g, ev, hg⟩ := h1.map_inv
    have ek := h2.v_eq
    obtain ⟨_, q⟩ := hI.maps.is id g _ hg hm
    obtain ⟨xs, clock, hw, ho⟩ := q.map_inv
    obtain ⟨inf, hi1, hi2⟩ := Option.map_eq_some_iff.1 hz
    have hzv : ∀ w, (zeroValue et).run P w = .ok z w := fun w => by simp [zeroValue, typeInfo, hi1, hi2]
    have hck : ∀ e, (Instr.checkKey e 10000 kt (.string ⟨l.toArray⟩)).run P w = .ok () w := fun e => MapKept.run_checkKey hkt (show MapKept.IsKey .string (.string _) from trivial) e 9999
    rcases ho.look l with ⟨p1, p2⟩ | ⟨i, e, d, p1, p2, p3, p4, p5, p6⟩
    · refine ⟨z, w, c, _, H, ?_, Le.refl c, .d (hd _), hI, ?_, rfl⟩
      · simp [execOp, Instr.lookup, ev, ek, run_underlying ht, MapKept.run_getObj_map hw, hck, MapKept.run_findKey hkt p2, hzv]
      · rw [(atE_none p1).1]; rfl
    · refine ⟨e.val, w, c, _, H, ?_, Le.refl c, .d p5, hI, ?_, rfl⟩
      · simp [execOp, Instr.lookup, ev, ek, run_underlying ht, MapKept.run_getObj_map hw, hck, MapKept.run_findKey hkt p6]
      · rw [p4]; rfl
theorem op_lookup2 {x k : Operand} {t kt et : TypeId} {z : Value} {id : Nat} {es : List (List UInt8 × DV)} {l : List UInt8} {d0 : DV} (ht : P.underlying t = some (.map kt et)) (hkt : P.underlying kt = some .string) (hz : (P.info? et).map (·.zero) = some (some z))
    (hd : ∀ m, RepD m z d0) (hx : E x = .map id) (hl : E k = .d (S l)) (hm : H.maps[id]? = some (.map es)) : OpR P ⟨dst, .lookup t x k true, ty, pos, after, gd⟩ E H (Ret (.tup [.d ((getE es l).getD d0), .d (TF (getE es l).isSome)]) H) :=
  opR_value fun B w0 c w a hI hops => by
    have h1 := hops x (by simp [Op.operands])
    have h2 := hops k (by simp [Op.operands])
    rw [hx] at h1
    rw [hl] at h2
    obtain ⟨g, ev, hg⟩ := h1.map_inv
    have ek := h2.v_eq
    obtain ⟨_, q⟩ := hI.maps.is id g _ hg hm
    obtain ⟨xs, clock, hw, ho⟩ := q.map_inv
    obtain ⟨inf, hi1, hi2⟩ := Option.map_eq_some_iff.1 hz
    have hzv : ∀ w, (zeroValue et).run P w = .ok z w := fun w => by simp [zeroValue, typeInfo, hi1, hi2]
    have hck : ∀ e, (Instr.checkKey e 10000 kt (.string ⟨l.toArray⟩)).run P w = .ok () w := fun e => MapKept.run_checkKey hkt (show MapKept.IsKey .string (.string _) from trivial) e 9999
    have two : ∀ {u0 u1 : Value} {a b : AV}, Rep c u0 a → Rep c u1 b → Rep c (.tuple #[u0, u1]) (.tup [a, b]) := fun h1 h2 => .tup _ _ rfl fun i hi => by
      match i, hi with
      | 0, _ => exact h1
      | 1, _ => exact h2
    rcases ho.look l with ⟨p1, p2⟩ | ⟨i, e, d, p1, p2, p3, p4, p5, p6⟩
    · refine ⟨.tuple #[z, .bool false], w, c, _, H, ?_, Le.refl c, ?_, hI, rfl, rfl⟩
      · simp [execOp, Instr.lookup, ev, ek, run_underlying ht, MapKept.run_getObj_map hw, hck, MapKept.run_findKey hkt p2, hzv]
      · rw [(atE_none p1).1]; exact two (.d (hd _)) (.d (.v _ rfl))
    · refine ⟨.tuple #[e.val, .bool true], w, c, _, H, ?_, Le.refl c, ?_, hI, rfl, rfl⟩
      · simp [execOp, Instr.lookup, ev, ek, run_underlying ht, MapKept.run_getObj_map hw, hck, MapKept.run_findKey hkt p6]
      · rw [p4]; exact two (.d p5) (.d (.v _ rfl))
theorem op_mapUpdate {x k v : Operand} {t kt et : TypeId} {id : Nat} {es : List (List UInt8 × DV)} {l : List UInt8} {d : DV} (ht : P.underlying t = some (.map kt et)) (hkt : P.underlying kt = some .string) (hx : E x = .map id) (hl : E k = .d (S l))
    (hv : Weak (E v) (.d d)) (hm : H.maps[id]? = some (.map es)) (hno : ∀ (j n : Nat) q, H.maps[j]? ≠ some (.iter (some id) n q)) : OpR P ⟨dst, .mapUpdate t x k v, ty, pos, after, gd⟩ E H (Ret .un (H.setM id (.map (putE es l d)))) :=
  opR_skip fun B w0 c w a hI hops => by
    have h1 := hops x (by simp [Op.operands])
    have h2 := hops k (by simp [Op.operands])
    have h3 := (hv c _ (hops v (by simp [Op.operands]))).d_inv
    rw [hx] at h1
    rw [hl] at h2
    obtain ⟨g, ev, hg⟩ := h1.map_inv
    have ek := h2.v_eq
    obtain ⟨q0, q⟩ := hI.maps.is id g _ hg hm
    obtain ⟨xs, clock, hw, ho⟩ := q.map_inv
    have hck : ∀ e, (Instr.checkKey e 10000 kt (.string ⟨l.toArray⟩)).run P w = .ok () w := fun e => MapKept.run_checkKey hkt (show MapKept.IsKey .string (.string _) from trivial) e 9999
    rcases ho.look l with ⟨p1, p2⟩ | ⟨i, e, d', p1, p2, p3, p4, p5, p6⟩
    · have hset := MapKept.heap_set (o' := Obj.map (xs.push { key := .string ⟨l.toArray⟩, val := a.eval v, born := clock }) (clock + 1)) hw
      refine ⟨_, c, _, ?_, Le.refl c, hI.setM id g _ (.map (putE es l d)) hg hm (.map (xs.push { key := .string ⟨l.toArray⟩, val := a.eval v, born := clock }) (clock + 1)) _ rfl (below_set hI.below q0 _) (.map _ _ _ _ hset.1 ?_) (by intros; simp) (fun es' he j n q => hno j n q), rfl, rfl⟩
      · simp [execOp, Instr.mapUpdate, ev, ek, run_underlying ht, MapKept.run_getObj_map hw, hck, MapKept.run_findKey hkt p2, MapKept.run_setObj_map _ hw]
      · rw [(atE_none p1).2.1]; exact ho.push h3
    · have hset := MapKept.heap_set (o' := Obj.map (xs.modify i fun e => { e with key := .string ⟨l.toArray⟩, val := a.eval v }) clock) hw
      have hstay := MapKept.run_keyThatStays (P := P) (w := w) (d := .string) (k := .string ⟨l.toArray⟩) (show MapKept.IsKey .string (.string _) from trivial)
      refine ⟨_, c, _, ?_, Le.refl c, hI.setM id g _ (.map (putE es l d)) hg hm (.map (xs.modify i fun e => { e with key := .string ⟨l.toArray⟩, val := a.eval v }) clock) _ rfl (below_set hI.below q0 _) (.map _ _ _ _ hset.1 ?_) (by intros; simp) (fun es' he j n q => hno j n q), rfl, rfl⟩
      · simp [execOp, Instr.mapUpdate, ev, ek, run_underlying ht, MapKept.run_getObj_map hw, hck, MapKept.run_findKey hkt p6, MapKept.run_setObj_map _ hw, p2, p3, hstay]
      · obtain ⟨_, _, _, hp, _⟩ := atE_some p1
        rw [hp]; exact ho.put h3
theorem nodup_len : ∀ {l m : List Nat}, l.Nodup → (∀ x ∈ l, x ∈ m) → l.length ≤ m.length
  | [], _, _, _ => Nat.zero_le _
  | x :: l, m, h, hs => by
    have hx := hs x (List.mem_cons_self ..)
    have hn := List.nodup_cons.1 h
    have := nodup_len (l := l) (m := m.erase x) hn.2 fun y hy => (List.mem_erase_of_ne (fun e => hn.1 (by rw [← e]; exact hy))).2 (hs y (List.mem_cons_of_mem _ hy))
    have e := List.length_erase_of_mem hx
    have : 0 < m.length := List.length_pos_iff.2 (fun e => by rw [e] at hx; cases hx)
    simp only [List.length_cons]
    omega
theorem op_next {x : Operand} {id j n : Nat} {last : Option (List UInt8 × DV)} {es : List (List UInt8 × DV)} (hx : E x = .iter j) (hj : H.maps[j]? = some (.iter (some id) n last)) (hm : H.maps[id]? = some (.map es)) :
    OpR P ⟨dst, .next x false, ty, pos, after, gd⟩ E H (fun v H' => (v = .tup [.d (TF false)] ∧ H' = H) ∨
      ∃ k d, (k, d) ∈ es ∧ n < es.length ∧ v = .tup [.d (TF true), .d (S k), .d d] ∧ H' = H.setM j (.iter (some id) (n + 1) (some (k, d)))) :=
  opR_value fun B w0 c w a hI hops => by
    have h1 := hops x (by simp [Op.operands])
    rw [hx] at h1
    obtain ⟨g, ev, hg⟩ := h1.iter_inv
    obtain ⟨q0, q⟩ := hI.maps.is j g _ hg hj
    cases q with
    | iter _ _ r _ _ xs clock seen hmm hr hw hn hd hs hl =>
    obtain ⟨_, q2⟩ := hI.maps.is id r _ hmm hm
    obtain ⟨xs', clock', hw', ho⟩ := q2.map_inv
    rw [hr] at hw'
    injection hw' with hw'
    injection hw' with e1 e2
    subst e1 e2
    rcases run_next_at (P := P) w ty g r clock clock seen xs clock hw hr ho.lt (Nat.le_refl _) with ⟨h0, hrun⟩ | ⟨e, he, w1, hal, hrun⟩
    · refine ⟨.tuple #[.bool false], w, c, _, H, ?_, Le.refl c, .tup _ [.d (TF false)] rfl fun i hi => ?_, hI, .inl ⟨rfl, rfl⟩⟩
      · simp [execOp, ev, hrun]
      · simp at hi
        subst hi
        exact .d (.v _ rfl)
    · obtain ⟨hem, hes⟩ := mem_left he
      obtain ⟨i, hi, hie⟩ := List.getElem_of_mem hem
      have hil : i < es.length := by rw [← ho.len]; simpa using hi
      obtain ⟨e', p1, p2, p3⟩ := ho.rep i hil
      have : e' = e := by
        have h5 : xs[i]? = some e := by
          have hi' : i < xs.size := by simpa using hi
          rw [Array.getElem?_eq_getElem hi']
          simpa using hie
        rw [h5] at p1; exact (Option.some.inj p1).symm
      subst this
      have hnd : (seen.push e'.born).toList.Nodup := by
        rw [Array.toList_push]
        refine List.nodup_append.2 ⟨hd, by simp, fun a ha b hb => ?_⟩
        simp only [List.mem_singleton] at hb
        subst hb
        intro hab
        subst hab
        simp [Array.contains_iff_mem, Array.mem_def, ha] at hes
      have hsub : ∀ b ∈ (seen.push e'.born).toList, b ∈ xs.toList.map (·.born) := fun b hb => by
        rw [Array.toList_push] at hb
        rcases List.mem_append.1 hb with hb | hb
        · exact hs b hb
        · simp only [List.mem_singleton] at hb
          subst hb
          exact List.mem_map.2 ⟨e', hem, rfl⟩
      have hlen : n < es.length := by
        have := nodup_len hnd hsub
        simp only [Array.toList_push, List.length_append, Array.length_toList, List.length_cons, List.length_nil, List.length_map] at this
        have := ho.len
        omega
      have hw1 : w1.heap = w.heap := by rcases hal with rfl | rfl <;> rfl
      have hb1 : Below B w0 w1 := by
        rcases hal with rfl | rfl
        · exact hI.below
        · exact hI.below.drew
      have hset := MapKept.heap_set (o' := Obj.mapIter (some r) clock (seen.push e'.born) clock) hw
      have hrg : r ≠ g := fun hh => by subst hh; rw [hr] at hw; cases hw
      refine ⟨.tuple #[.bool true, e'.key, e'.val], _, c, .tup [.d (TF true), .d (S (es[i]).1), .d (es[i]).2], _, by simp only [execOp, ev]; rw [Sem.run_bind, hrun]; rfl, Le.refl c, ?_,
        hI.setM j g _ (.iter (some id) (n + 1) (some ((es[i]).1, (es[i]).2))) hg hj (.mapIter (some r) clock (seen.push e'.born) clock) _ (by show w1.heap.setIfInBounds _ _ = _; rw [hw1]) (below_set hb1 q0 _) ?_ (by intros; simp) (fun es' he => by cases he),
        .inr ⟨(es[i]).1, (es[i]).2, List.getElem_mem hil, hlen, rfl, rfl⟩⟩
      · refine .tup _ _ rfl fun m hm' => ?_
        match m, hm' with
        | 0, _ => exact .d (.v _ rfl)
        | 1, _ => rw [show (#[Value.bool true, e'.key, e'.val] : Array Value).getD 1 undef = e'.key from rfl, p2]; exact .d (.v _ rfl)
        | 2, _ => exact .d p3
      · refine .iter _ id r (n + 1) _ xs clock (seen.push e'.born) hmm ?_ ?_ (by simp [hn]) hnd hsub fun k d hkd => ?_
        · show (w1.heap.setIfInBounds _ _)[r]? = _
          rw [hw1, hset.2 r hrg]; exact hr
        · show (w1.heap.setIfInBounds _ _)[g]? = _
          rw [hw1]; exact hset.1
        · simp only [Option.some.injEq, Prod.mk.injEq] at hkd
          obtain ⟨rfl, rfl⟩ := hkd
          exact ⟨e', hem, seen, rfl, p2, p3⟩
theorem op_entry {x : Operand} {id j n : Nat} {k : List UInt8} {d : DV} {es : List (List UInt8 × DV)} (hx : E x = .iter j) (hj : H.maps[j]? = some (.iter (some id) n (some (k, d)))) (hm : H.maps[id]? = some (.map es)) :
    OpR P ⟨dst, .entry x, ty, pos, after, gd⟩ E H (Ret (.tup [.d (S k), .d d]) H) :=
  opR_value fun B w0 c w a hI hops => by
    have h1 := hops x (by simp [Op.operands])
    rw [hx] at h1
    obtain ⟨g, ev, hg⟩ := h1.iter_inv
    obtain ⟨q0, q⟩ := hI.maps.is j g _ hg hj
    cases q with
    | iter _ _ r _ _ xs clock seen hmm hr hw hn hd hs hl =>
    obtain ⟨_, q2⟩ := hI.maps.is id r _ hmm hm
    obtain ⟨xs', clock', hw', ho⟩ := q2.map_inv
    rw [hr] at hw'
    injection hw' with hw'
    injection hw' with e1 e2
    subst e1 e2
    obtain ⟨e, p1, s0, rfl, p3, p4⟩ := hl k d rfl
    have hrun := run_entry_at (P := P) w g r clock s0 xs clock e hw hr p1 ho.born
    refine ⟨.tuple #[e.key, e.val], w, c, _, H, by simp [execOp, ev, hrun], Le.refl c, .tup _ _ rfl fun m hm' => ?_, hI, rfl, rfl⟩
    match m, hm' with
    | 0, _ => rw [show (#[e.key, e.val] : Array Value).getD 0 undef = e.key from rfl, p3]; exact .d (.v _ rfl)
    | 1, _ => exact .d p4
theorem op_lookup2_at {x k : Operand} {t kt et : TypeId} {z : Value} {id : Nat} {es : List (List UInt8 × DV)} {l : List UInt8} {d0 d : DV} {b : Bool} (ht : P.underlying t = some (.map kt et)) (hkt : P.underlying kt = some .string) (hz : (P.info? et).map (·.zero) = some (some z))
    (hd : ∀ m, RepD m z d0) (hx : E x = .map id) (hl : E k = .d (S l)) (hm : H.maps[id]? = some (.map es)) (hb : (getE es l).isSome = b) (hg : (getE es l).getD d0 = d) : OpR P ⟨dst, .lookup t x k true, ty, pos, after, gd⟩ E H (Ret (.tup [.d d, .d (TF b)]) H) := by
  have h := op_lookup2 (dst := dst) (ty := ty) (pos := pos) (after := after) (gd := gd) ht hkt hz hd hx hl hm
  rwa [hb, hg] at h
theorem MapObj.erase {m : Mem} {es : List (List UInt8 × DV)} {xs : Array MapEntry} {clock i : Nat} (h : MapObj m es xs clock) (hi : i < es.length) : MapObj m (es.eraseIdx i) (xs.eraseIdxIfInBounds i) clock := by
  have hix : i < xs.size := by rw [h.len]; exact hi
  have hl : (xs.eraseIdxIfInBounds i).toList = xs.toList.eraseIdx i := by
    unfold Array.eraseIdxIfInBounds
    rw [dif_pos hix, Array.toList_eraseIdx]
  have hs : (xs.eraseIdxIfInBounds i).toList.Sublist xs.toList := by rw [hl]; exact List.eraseIdx_sublist _ _
  refine ⟨?_, (hs.map _).nodup h.born, fun x hx => h.lt x (hs.subset hx), fun j hj => ?_⟩
  · rw [← Array.length_toList, hl, List.length_eraseIdx, List.length_eraseIdx, if_pos (by simpa using hix), if_pos hi]
    simp [h.len]
  · have hje : j < es.length - 1 := by rw [List.length_eraseIdx, if_pos hi] at hj; exact hj
    have hget : ∀ k, (xs.eraseIdxIfInBounds i)[k]? = if k < i then xs[k]? else xs[k + 1]? := fun k => by
      rw [← Array.getElem?_toList, hl, List.getElem?_eraseIdx]
      simp
    have hget' : (es.eraseIdx i)[j]? = if j < i then es[j]? else es[j + 1]? := List.getElem?_eraseIdx ..
    by_cases hji : j < i
    · obtain ⟨e, q1, q2, q3⟩ := h.rep j (by omega)
      have e1 : (es.eraseIdx i)[j] = es[j]'(by omega) := by
        rw [if_pos hji, List.getElem?_eq_getElem hj, List.getElem?_eq_getElem (by omega)] at hget'
        exact Option.some.inj hget'
      exact ⟨e, by rw [hget, if_pos hji]; exact q1, by rw [e1]; exact q2, by rw [e1]; exact q3⟩
    · obtain ⟨e, q1, q2, q3⟩ := h.rep (j + 1) (by omega)
      have e1 : (es.eraseIdx i)[j] = es[j + 1]'(by omega) := by
        rw [if_neg hji, List.getElem?_eq_getElem hj, List.getElem?_eq_getElem (by omega)] at hget'
        exact Option.some.inj hget'
      exact ⟨e, by rw [hget, if_neg hji]; exact q1, by rw [e1]; exact q2, by rw [e1]; exact q3⟩
theorem op_delete {x k : Operand} {t kt' kt et : TypeId} {id : Nat} {es : List (List UInt8 × DV)} {l : List UInt8} (ht : P.underlying t = some (.map kt et)) (hkt : P.underlying kt = some .string) (hx : E x = .map id) (hl : E k = .d (S l))
    (hm : H.maps[id]? = some (.map es)) (hno : ∀ (j n : Nat) q, H.maps[j]? ≠ some (.iter (some id) n q)) : OpR P ⟨dst, .call ⟨.builtin .delete, #[x, k], #[t, kt']⟩, ty, pos, after, gd⟩ E H (Ret (.tup []) (H.setM id (.map (delE es l)))) :=
  opR_value fun B w0 c w a hI hops => by
    have h1 := hops x (by simp [Op.operands, Call.operands])
    have h2 := hops k (by simp [Op.operands, Call.operands])
    rw [hx] at h1
    rw [hl] at h2
    obtain ⟨g, ev, hg⟩ := h1.map_inv
    have ek := h2.v_eq
    obtain ⟨q0, q⟩ := hI.maps.is id g _ hg hm
    obtain ⟨xs, clock, hw, ho⟩ := q.map_inv
    have hck : ∀ e, (Instr.checkKey e 10000 kt (.string ⟨l.toArray⟩)).run P w = .ok () w := fun e => MapKept.run_checkKey hkt (show MapKept.IsKey .string (.string _) from trivial) e 9999
    rcases ho.look l with ⟨p1, p2⟩ | ⟨i, e, d', p1, p2, p3, p4, p5, p6⟩
    · have hset := MapKept.heap_set (o' := Obj.map xs clock) hw
      refine ⟨.tuple #[], _, c, .tup [], _, ?_, Le.refl c, .tup _ _ rfl (fun i hi => by simp at hi), hI.setM id g _ (.map (delE es l)) hg hm (.map xs clock) _ rfl (below_set hI.below q0 _) (.map _ _ _ _ hset.1 ?_) (by intros; simp) (fun es' he j n q => hno j n q), rfl, rfl⟩
      · simp [execOp, resolve, invoke, builtin, Builtin.delete_, ev, ek, run_underlying ht, MapKept.run_getObj_map hw, hck, MapKept.run_findKey hkt p2, MapKept.run_setObj_map _ hw]
      · rw [(atE_none p1).2.2]; exact ho
    · have hset := MapKept.heap_set (o' := Obj.map (xs.eraseIdxIfInBounds i) clock) hw
      refine ⟨.tuple #[], _, c, .tup [], _, ?_, Le.refl c, .tup _ _ rfl (fun i hi => by simp at hi), hI.setM id g _ (.map (delE es l)) hg hm (.map (xs.eraseIdxIfInBounds i) clock) _ rfl (below_set hI.below q0 _) (.map _ _ _ _ hset.1 ?_) (by intros; simp) (fun es' he j n q => hno j n q), rfl, rfl⟩
      · simp [execOp, resolve, invoke, builtin, Builtin.delete_, ev, ek, run_underlying ht, MapKept.run_getObj_map hw, hck, MapKept.run_findKey hkt p6, MapKept.run_setObj_map _ hw]
      · obtain ⟨d2, hd2, _, _, hdel⟩ := atE_some p1
        rw [hdel]; exact ho.erase (List.getElem?_eq_some_iff.1 hd2).1
theorem pushM_nb {H : HS} {m : MB} : (H.pushM m).nb = H.nb := rfl
theorem setM_nb {H : HS} {i : Nat} {m : MB} : (H.setM i m).nb = H.nb := rfl
theorem pushM_blks {H : HS} {m : MB} : (H.pushM m).blks = H.blks := rfl
theorem setM_blks {H : HS} {i : Nat} {m : MB} : (H.setM i m).blks = H.blks := rfl
theorem noIter1 {H : HS} {es : List (List UInt8 × DV)} (h : H.maps = [.map es]) (id : Nat) : ∀ (j n : Nat) q, H.maps[j]? ≠ some (.iter (some id) n q) := by
  intro j n q
  rw [h]
  cases j with
  | zero => simp
  | succ j => simp
end
end Go.AV
namespace Go.AV
open Go.RowKit
section
variable {P : Program} {Q : Post} {T : List AV} {H : HS}
def NoGo (Q : Post) : Post
  | .goto _, _, _ => False
  | e, T, H => Q e T H
theorem noGo_ret (h : Q .ret T H) : NoGo Q .ret T H := h
theorem aw_scope {k : Code} (h : AW P k (NoGo Q) T H) : AW P (.scope k) Q T H := by
  intro B w0 c0 c w a h0 h1 h2 h3
  refine wp_scope_straight (wp_mono (h B w0 c0 c w a h0 h1 h2 h3) ?_)
  rintro e a' w' ⟨c', T', H', x1, x2, x3, x4, x5⟩
  cases e with
  | normal => exact ⟨c', T', H', x1, x2, x3, x4, x5⟩
  | exit id => exact ⟨c', T', H', x1, x2, x3, x4, x5⟩
  | goto l => exact x5.elim
  | ret => exact ⟨c', T', H', x1, x2, x3, x4, x5⟩
  | panic ch => exact ⟨c', T', H', x1, x2, x3, x4, x5⟩
  | outgrown => exact ⟨c', T', H', x1, x2, x3, x4, x5⟩
theorem aw_label {l : Nat} (h : Q .normal T H) : AW P (.label l) Q T H := fun _ _ _ c _ _ h0 h1 h2 h3 => wp_label ⟨c, T, H, h0, h1, h2, h3, h⟩
theorem al_consw {ops : Array Oper} {o : Oper} {l : List Oper} {g d : Nat} {x : Bool} (R : AV → HS → Prop) (ho : OpR P o (evalT T) H R) (hg : o.guard = some (g, x)) (hd : ((ops[g]?).bind (·.dst)) = some d) (hx : T[d]? = some (.d (.v (.bool x))))
    (h : ∀ v H', R v H' → AL P ops l Q (putT T o.dst v) H') : AL P ops (o :: l) Q T H := by
  intro B w0 c0 c w a h0 h1 h2 h3
  unfold wpList
  rw [if_pos (by simp [Region.wanted, hg, yielded_of h2 hd hx])]
  refine .inl (ho B w0 c w a _ _ h1 (fun x _ => h2.eval x) ?_)
  intro v' w' c' av H'' l1 r1 i1 hR
  exact h av H'' hR B w0 c0 c' w' _ (h0.trans l1) i1 ((h2.mono l1).put o.dst r1) (by rw [put_defers]; exact h3)
end
end Go.AV
namespace Go.AV
open Go.RowKit
inductive Lin (ops : Array Oper) : Array Bool → List Nat → Prop
  | nil {listed : Array Bool} (h : Region.ready .any ops listed = []) : Lin ops listed []
  | cons {listed : Array Bool} {j : Nat} {l : List Nat} (h : j ∈ Region.ready .any ops listed) (r : Lin ops (listed.setIfInBounds j true) l) : Lin ops listed (j :: l)
theorem go_lin {ops : Array Oper} : ∀ (fuel t : Nat) (listed : Array Bool), listed.size = ops.size → ((List.range ops.size).filter fun i => !inS listed i).length ≤ fuel → Lin ops listed (Region.linearise.go .any ops fuel t listed [])
  | 0, t, listed, hsz, hc => by
    refine .nil ?_
    cases hr : Region.ready .any ops listed with
    | nil => rfl
    | cons j l =>
      have hj : j ∈ Region.ready .any ops listed := by rw [hr]; exact List.mem_cons_self ..
      obtain ⟨h1, o, ho, _⟩ := mem_ready.1 hj
      have hlt : j < ops.size := (Array.getElem?_eq_some_iff.1 ho).1
      have h2 : inS listed j = false := by
        have : j < listed.size := by omega
        simpa [inS, this] using h1
      have : j ∈ (List.range ops.size).filter fun i => !inS listed i := by simp [hlt, h2]
      have := List.length_pos_of_mem this
      omega
  | fuel + 1, t, listed, hsz, hc => by
    simp only [Region.linearise.go]
    change Lin ops listed (match (Region.ready .any ops listed)[t % (Region.ready .any ops listed).length]? with
      | some i => Region.linearise.go .any ops fuel (t / (Region.ready .any ops listed).length) (listed.setIfInBounds i true) [i]
      | none => [].reverse)
    cases hi : (Region.ready .any ops listed)[t % (Region.ready .any ops listed).length]? with
    | none =>
      refine .nil ?_
      cases hr : Region.ready .any ops listed with
      | nil => rfl
      | cons x xs =>
        rw [hr] at hi
        have hlt : t % (x :: xs).length < (x :: xs).length := Nat.mod_lt _ (by simp)
        simp at hi
        simp at hlt
        omega
    | some i =>
      simp only []
      rw [linearise_go_acc, List.reverse_singleton, List.singleton_append]
      have hm : i ∈ Region.ready .any ops listed := List.mem_of_getElem? hi
      refine .cons hm (go_lin fuel _ _ (by simpa using hsz) ?_)
      obtain ⟨h1, o, ho, _⟩ := mem_ready.1 hm
      have hlt : i < ops.size := (Array.getElem?_eq_some_iff.1 ho).1
      have h2 : inS listed i = false := by
        have : i < listed.size := by omega
        simpa [inS, this] using h1
      have h3 : ∀ k, inS (listed.setIfInBounds i true) k = if k = i then true else inS listed k := fun k => by
        unfold inS
        by_cases hk : k = i
        · subst hk
          have : k < listed.size := by omega
          simp [this]
        · rw [if_neg hk]
          exact getD_set_ne (listed := listed) (i := i) (j := k) false (fun e => hk e.symm)
      have := filter_lt (List.range ops.size) (inS listed) (inS (listed.setIfInBounds i true)) i (by simpa using hlt) h2 (by rw [h3, if_pos rfl]) (fun k hk => by rw [h3]; split; rfl; exact hk)
      omega
theorem wp_after (P : Program) (o : Oper) (A : Array Edge) (a : Act) (w : World) (K : Act → World → Prop) (Q : Exit → Act → World → Prop) : ({ o with after := A } : Oper).wp P a w K Q = o.wp P a w K Q := by
  cases o; rfl
theorem asks_after (P : Program) (o : Oper) (A : Array Edge) (a : Act) (w : World) : ({ o with after := A } : Oper).asks P a w = o.asks P a w := by
  cases o; rfl
structure Relab (ops ops' : Array Oper) (π : Nat → Nat) (a b : Nat) : Prop where
  inv : ∀ k, π (π k) = k
  size : ops'.size = ops.size
  bound : ∀ k, k < ops.size → π k < ops.size
  at_ : ∀ k o, ops[k]? = some o → o.guard = none ∧ ∃ A, ops'[π k]? = some { o with after := A } ∧ (∀ e' ∈ A, Region.binds .any e' = true → (∃ e ∈ o.after, Region.binds .any e = true ∧ e'.on = π e.on) ∨ (k = b ∧ e'.on = π a)) ∧
    (∀ e ∈ o.after, Region.binds .any e = true → ∃ e' ∈ A, Region.binds .any e' = true ∧ e'.on = π e.on)
theorem lin_run {P : Program} {Q : Exit → Act → World → Prop} {ops ops' : Array Oper} {π : Nat → Nat} {x y : Nat} (hR : Relab ops ops' π x y) : ∀ (l : List Nat) (listed listed' : Array Bool) (fuel : Nat) (a : Act) (w : World),
    Lin ops listed l → (∀ k d, listed'.getD (π k) d = listed.getD k d) → listed.size = ops.size → listed'.size = ops.size → (∀ l1 l2, l = l1 ++ y :: l2 → x ∈ l1 ∨ listed.getD x false = true) → wpAny P .any ops' Q fuel listed' a w → wpOps P ops Q l a w
  | [], listed, listed', fuel, a, w, hl, hL, hs, hs', _, h => by
    cases hl with
    | nil hr =>
      have hr' : Region.ready .any ops' listed' = [] := by
        cases hq : Region.ready .any ops' listed' with
        | nil => rfl
        | cons j l =>
          have hj : j ∈ Region.ready .any ops' listed' := by rw [hq]; exact List.mem_cons_self ..
          obtain ⟨h1, o', ho', h2⟩ := mem_ready.1 hj
          have hjl : j < ops.size := by rw [← hR.size]; exact (Array.getElem?_eq_some_iff.1 ho').1
          obtain ⟨o, ho⟩ : ∃ o, ops[π j]? = some o := ⟨_, Array.getElem?_eq_getElem (hR.bound j hjl)⟩
          obtain ⟨_, A, hA, _, hA2⟩ := hR.at_ (π j) o ho
          rw [hR.inv, ho'] at hA
          cases hA
          have : π j ∈ Region.ready .any ops listed := by
            refine mem_ready.2 ⟨?_, o, ho, fun e he hb => ?_⟩
            · rw [← hL (π j) true, hR.inv]; exact h1
            · obtain ⟨e', he', hb', e1⟩ := hA2 e he hb
              have := h2 e' he' hb'
              rw [e1, hL] at this
              exact this
          rw [hr] at this
          cases this
      cases fuel with
      | zero => exact h.2
      | succ fuel => exact h.1 hr'
  | j :: l, listed, listed', fuel, a, w, hl, hL, hs, hs', ho, h => by
    cases hl with
    | cons hj hl =>
      obtain ⟨h1, o, hoj, h2⟩ := mem_ready.1 hj
      have hjl : j < ops.size := (Array.getElem?_eq_some_iff.1 hoj).1
      obtain ⟨hg, A, hA, hA1, _⟩ := hR.at_ j o hoj
      have hr' : π j ∈ Region.ready .any ops' listed' := by
        refine mem_ready.2 ⟨by rw [hL]; exact h1, _, hA, fun e' he' hb' => ?_⟩
        rcases hA1 e' he' hb' with ⟨e, he, hb, e1⟩ | ⟨e0, e1⟩
        · rw [e1, hL]; exact h2 e he hb
        · rw [e1, hL]
          rcases ho [] l (by rw [e0]; rfl) with h3 | h3
          · cases h3
          · exact h3
      have hL' : ∀ k d, (listed'.setIfInBounds (π j) true).getD (π k) d = (listed.setIfInBounds j true).getD k d := fun k d => by
        by_cases hk : k = j
        · subst hk
          have q1 : k < listed.size := by omega
          have q2 : π k < listed'.size := by rw [hs']; exact hR.bound k hjl
          simp [q1, q2]
        · have q3 : ¬ π k = π j := fun e => hk (by rw [← hR.inv k, e, hR.inv])
          rw [getD_set_ne d (fun e => q3 e.symm), getD_set_ne d (fun e => hk e.symm)]
          exact hL k d
      cases fuel with
      | zero => rw [h.1] at hr'; cases hr'
      | succ fuel =>
        have h3 := h.2 (π j) hr'
        rw [wpOps_cons]
        have h4 : wpOp P ops' Q (π j) (wpOps P ops Q l) a w := wpOp_mono (fun a' w' hh => lin_run hR l _ _ fuel a' w' hl hL' (by simpa using hs) (by simpa using hs') (fun l1 l2 e => by
          rcases ho (j :: l1) l2 (by rw [e]; rfl) with h5 | h5
          · rcases List.mem_cons.1 h5 with h6 | h6
            · subst h6
              refine .inr ?_
              have q1 : x < listed.size := by omega
              simp [q1]
            · exact .inl h6
          · refine .inr ?_
            by_cases hx : x = j
            · subst hx
              have q1 : x < listed.size := by omega
              simp [q1]
            · rw [getD_set_ne false (fun e => hx e.symm)]; exact h5) hh) h3
        unfold wpOp at h4 ⊢
        simp only [hoj, hA] at h4 ⊢
        have hw : ∀ (f : Nat → Option Bool), Region.wanted o f = true := fun f => by simp [Region.wanted, hg]
        have hw' : ∀ (f : Nat → Option Bool), Region.wanted { o with after := A } f = true := fun f => by simp [Region.wanted, hg]
        rw [hw', if_pos rfl, wp_after, asks_after] at h4
        rw [hw, if_pos rfl]
        exact h4
theorem which_first {i j : Nat} (hij : i ≠ j) (l : List Nat) : (∀ l1 l2, l = l1 ++ j :: l2 → i ∈ l1) ∨ (∀ l1 l2, l = l1 ++ i :: l2 → j ∈ l1) := by
  by_cases h : ∀ l1 l2, l = l1 ++ j :: l2 → i ∈ l1
  · exact .inl h
  · right
    obtain ⟨l1, l2, e, hn⟩ : ∃ l1 l2, l = l1 ++ j :: l2 ∧ i ∉ l1 := by
      refine Classical.byContradiction fun hh => h fun l1 l2 e => Classical.byContradiction fun hc => hh ⟨l1, l2, e, hc⟩
    intro m1 m2 e'
    rw [e] at e'
    rcases List.append_eq_append_iff.1 e' with ⟨c, h1, h2⟩ | ⟨c, h1, h2⟩
    · cases c with
      | nil => simp at h2; exact absurd h2.1.symm hij
      | cons x c => 
        rw [List.cons_append] at h2
        injection h2 with h2 h3
        rw [h1, ← h2]; simp
    · cases c with
      | nil => simp at h2; exact absurd h2.1 hij
      | cons x c =>
        rw [List.cons_append] at h2
        injection h2 with h2 h3
        exact absurd (by rw [h1, ← h2]; simp) hn
def relabL (l : List Oper) (π : Nat → Nat) (a b : Nat) : List Oper := (List.range l.length).map fun k' => match l[π k']? with
  | some o => { o with after := (o.after.map fun e => { e with on := π e.on }) ++ (if π k' = b then #[⟨π a, .data⟩] else #[]) }
  | none => default
theorem relabL_rel {l : List Oper} {π : Nat → Nat} {a b : Nat} (hinv : ∀ k, π (π k) = k) (hb : ∀ k, k < l.length → π k < l.length) (hg : l.all (fun o => o.guard.isNone) = true) : Relab l.toArray (relabL l π a b).toArray π a b where
  inv := hinv
  size := by simp [relabL]
  bound := by simpa using hb
  at_ := fun k o ho => by
    have ho' : l[k]? = some o := by simpa using ho
    have hk : k < l.length := (List.getElem?_eq_some_iff.1 ho').1
    have hgo : o.guard = none := by
      have := List.all_eq_true.1 hg o (List.mem_of_getElem? ho')
      simpa using this
    refine ⟨hgo, (o.after.map fun e => { e with on := π e.on }) ++ (if k = b then #[⟨π a, .data⟩] else #[]), ?_, ?_, ?_⟩
    · have h1 : (List.range l.length)[π k]? = some (π k) := by simp [hb k hk]
      simp [relabL, hb k hk, hinv, ho']
    · intro e' he' hb'
      rcases Array.mem_append.1 he' with h | h
      · obtain ⟨e, he, rfl⟩ := Array.mem_map.1 h
        exact .inl ⟨e, he, by cases e; exact hb', rfl⟩
      · split at h
        · rename_i hkb
          simp at h
          subst h
          exact .inr ⟨hkb, rfl⟩
        · simp at h
    · intro e he hb'
      exact ⟨{ e with on := π e.on }, Array.mem_append.2 (.inl (Array.mem_map.2 ⟨e, he, rfl⟩)), by cases e; exact hb', rfl⟩
theorem drun_same {P : Program} {Φ : HS → Prop} {ops ops' : Array Oper} {Q : List AV → HS → Prop} : ∀ (l l' : List Oper) (fl : List Nat) (T : List AV) (H : HS), l'.length = l.length → (∀ (k : Nat) (o : Oper), l[k]? = some o → o.guard = none ∧ ∃ A, l'[k]? = some { o with after := A }) → DRunX P Φ ops l fl T H Q → DRunX P Φ ops' l' fl T H Q
  | [], [], _, _, _, _, _, h => h
  | [], _ :: _, _, _, _, h, _, _ => by simp at h
  | _ :: _, [], _, _, _, h, _, _ => by simp at h
  | o :: l, o' :: l', fl, T, H, hl, hs, h => by
    obtain ⟨hg, A, hA⟩ := hs 0 o rfl
    simp at hA
    subst hA
    obtain ⟨v, H', hst, hp, hr⟩ := h
    refine ⟨v, H', ?_, hp.imp (fun e => by subst e; simpa using hl) id, drun_same l l' _ _ _ (by simpa using hl) (fun k o hk => by have := hs (k + 1) o (by simpa using hk); simpa using this) hr⟩
    obtain ⟨b, h1, h2⟩ := hst
    simp only [hg] at h1
    have hO : ∀ K R, OpR P o (evalT T) K R → OpR P { o with after := A } (evalT T) K R := fun K R hh B w0 c w a next Q' hI ho hn => by
      rw [wp_after]
      exact hh B w0 c w a next Q' hI ho hn
    refine ⟨b, by simp only [hg]; exact h1, ?_⟩
    cases b with
    | false => cases h1
    | true =>
      rcases hf : fl.headD 2 with _ | _ | f
      · rw [hf] at h2; exact ⟨h2.1, fun K hK => hO _ _ (h2.2 K hK)⟩
      · rw [hf] at h2; exact ⟨h2.1, hO _ _ h2.2⟩
      · rw [hf] at h2; exact hO _ _ h2
section
variable {P : Program} {Q : Post}
theorem any_drawX (Φ : HS → Prop) {T : List AV} {H : HS} {l : List Oper} (fl : List Nat) (hok : drawOk l.toArray fl (Region.before l.toArray) = true)
    (hΦ : Φ H) (hlast : (∀ K, Φ K) ∨ ((List.range (l.length - 1)).all fun j => bit (Region.before l.toArray) j (l.length - 1)) = true) (hrun : DRunX P Φ l.toArray l fl T H fun T' H' => Q .normal T' H')
    {B0 : Nat} {w0 : World} {c0 c : Ctx} {w : World} {a : Act} (h0 : Le c0 c) (h1 : Inv B0 w0 c H w) (h2 : RepT c a.tmps T) (h3 : a.defers = []) :
    wpAny P .any l.toArray (Done B0 w0 c0 Q) l.toArray.size (Array.replicate l.toArray.size false) a { w with drawn := w.drawn + 1 } := by
  obtain ⟨vs, hs, e1, ep, e2, e3⟩ := drun_ref (P := P) (ops := l.toArray) (fl := fl) l 0 fl T H _ (fun i => by simp) (fun i => by simp) hrun
  have htref : ∀ k, (List.range k).foldl (fun T j => putT T (dstAt l.toArray (0 + j)) (vs (0 + j))) T = Tref l.toArray T vs k := by
    intro k
    induction k with
    | zero => rfl
    | succ k ih => rw [List.range_succ, List.foldl_append, ih]; simp [Tref]
  simp only [htref] at e2 e3
  refine draw_main (Q := Q) (vs := vs) (hs := hs) (T0 := T) hok ⟨fun k o hk => ?_, fun k hk => by have := ep hΦ k (by simpa using hk); simpa using this, hlast.imp (fun h => h _) (fun h j hj => by simp at hj ⊢; exact List.all_eq_true.1 h j (by simp; omega))⟩ ?_ B0 w0 c0 _ _ c _ a (by simp) ?_ ?_ h0 ?_ h2.size ?_ h3
  · have := e2 k o (by simpa using hk)
    simpa using this
  · simpa using e3
  · have : ((List.range l.toArray.size).filter fun i => !inS (Array.replicate l.toArray.size false) i).length ≤ (List.range l.toArray.size).length := List.length_filter_le _ _
    simpa using this
  · intro i j hj hi hS hb
    simp only [inS] at hS
    simp at hS hj
    simp [hj] at hS
  · rw [Hc_at (j := 0) (Nat.zero_le _) (fun i hi _ => by rw [inS_none]; rfl)]
    show Inv B0 w0 c (hs 0) _
    rw [e1]
    exact h1.drew
  · intro t ht
    rw [W_at (j := 0) (Nat.zero_le _) (fun i hi _ => by rw [inS_none]; rfl)]
    exact h2.at_ t ht
def sw (i j k : Nat) : Nat := if k = i then j else if k = j then i else k
theorem sw_sw (i j k : Nat) : sw i j (sw i j k) = k := by
  unfold sw
  by_cases h1 : k = i
  · subst h1; simp
  · by_cases h2 : k = j
    · subst h2; simp
    · simp [h1, h2]
def swapL (l : List Oper) (i j : Nat) : List Oper := (l.set i (l.getD j default)).set j (l.getD i default)
theorem swapL_at {l : List Oper} {i j k : Nat} (hi : i < l.length) (hj : j < l.length) {o : Oper} (h : (swapL l i j)[k]? = some o) : l[sw i j k]? = some o := by
  unfold swapL at h
  unfold sw
  by_cases h2 : k = j
  · subst h2
    rw [List.getElem?_set_self (by simpa using hj)] at h
    by_cases h1 : k = i
    · subst h1; rw [if_pos rfl]; simpa [List.getD_eq_getElem?_getD, hi] using h
    · rw [if_neg h1, if_pos rfl]; simpa [List.getD_eq_getElem?_getD, hi] using h
  · rw [List.getElem?_set_ne (fun e => h2 e.symm)] at h
    by_cases h1 : k = i
    · subst h1
      rw [List.getElem?_set_self hi] at h
      rw [if_pos rfl]; simpa [List.getD_eq_getElem?_getD, hj] using h
    · rw [List.getElem?_set_ne (fun e => h1 e.symm)] at h
      rw [if_neg h1, if_neg h2]; exact h
theorem aw_drawTwo (Φ : HS → Prop) {id : Nat} {T : List AV} {H : HS} {l : List Oper} (i j : Nat) (fl fl2 : List Nat) (hi : i < l.length) (hj : j < l.length) (hij : i ≠ j) (hg : l.all (fun o => o.guard.isNone) = true) (hm : P.follows .mixedOrders = true)
    (hok1 : drawOk (relabL l (fun k => k) i j).toArray fl (Region.before (relabL l (fun k => k) i j).toArray) = true) (hok2 : drawOk (relabL l (sw i j) j i).toArray fl2 (Region.before (relabL l (sw i j) j i).toArray) = true) (hΦ : Φ H)
    (hl1 : (∀ K, Φ K) ∨ ((List.range ((relabL l (fun k => k) i j).length - 1)).all fun q => bit (Region.before (relabL l (fun k => k) i j).toArray) q ((relabL l (fun k => k) i j).length - 1)) = true)
    (hl2 : (∀ K, Φ K) ∨ ((List.range ((relabL l (sw i j) j i).length - 1)).all fun q => bit (Region.before (relabL l (sw i j) j i).toArray) q ((relabL l (sw i j) j i).length - 1)) = true)
    (hrun1 : DRunX P Φ l.toArray l fl T H fun T' H' => Q .normal T' H') (hrun2 : DRunX P Φ l.toArray (swapL l i j) fl2 T H fun T' H' => Q .normal T' H') : AW P (.region id l.toArray true) Q T H := by
  intro B0 w0 c0 c w a h0 h1 h2 h3
  have hgn : ∀ (k : Nat) (o : Oper), l[k]? = some o → o.guard = none := fun k o ho => by
    have := List.all_eq_true.1 hg o (List.mem_of_getElem? ho)
    simpa using this
  have hsw : ∀ k, k < l.length → sw i j k < l.length := fun k hk => by unfold sw; split; exact hj; split; exact hi; exact hk
  have len : ∀ π x y, (relabL l π x y).length = l.length := fun π x y => by simp [relabL]
  have R1 : Relab l.toArray (relabL l (fun k => k) i j).toArray (fun k => k) i j := relabL_rel (fun _ => rfl) (fun _ h => h) hg
  have R2 : Relab l.toArray (relabL l (sw i j) j i).toArray (sw i j) j i := relabL_rel (sw_sw i j) hsw hg
  have d1 : DRunX P Φ (relabL l (fun k => k) i j).toArray (relabL l (fun k => k) i j) fl T H fun T' H' => Q .normal T' H' := drun_same l _ fl T H (len _ _ _) (fun k o ho => by
    obtain ⟨q1, A, q2, _⟩ := R1.at_ k o (by simpa using ho)
    exact ⟨q1, A, by simpa using q2⟩) hrun1
  have d2 : DRunX P Φ (relabL l (sw i j) j i).toArray (relabL l (sw i j) j i) fl2 T H fun T' H' => Q .normal T' H' := drun_same (swapL l i j) _ fl2 T H (by rw [len]; simp [swapL]) (fun k o ho => by
    obtain ⟨q1, A, q2, _⟩ := R2.at_ (sw i j k) o (by have := swapL_at hi hj ho; simpa using this)
    rw [sw_sw] at q2
    exact ⟨q1, A, by simpa using q2⟩) hrun2
  refine wp_region_draw fun t => ?_
  simp only [Region.schedule, hm, Bool.true_or, if_true]
  have hL : Lin l.toArray (Array.replicate l.toArray.size false) (Region.linearise .any l.toArray t) := by
    unfold Region.linearise
    refine go_lin _ _ _ (by simp) ?_
    have : ((List.range l.toArray.size).filter fun i => !inS (Array.replicate l.toArray.size false) i).length ≤ (List.range l.toArray.size).length := List.length_filter_le _ _
    simpa using this
  have none : ∀ (π : Nat → Nat), (∀ k, k < l.length ↔ π k < l.length) → ∀ k d, (Array.replicate l.length false).getD (π k) d = (Array.replicate l.length false).getD k d := fun π hπ k d => by
    by_cases hk : k < l.length
    · have := (hπ k).1 hk; simp [hk, this]
    · have : ¬ π k < l.length := fun h => hk ((hπ k).2 h)
      simp [hk, this]
  have s1 : (relabL l (fun k => k) i j).toArray.size = l.length := by simp [relabL]
  have s2 : (relabL l (sw i j) j i).toArray.size = l.length := by simp [relabL]
  have hsz : l.toArray.size = l.length := by simp
  rcases which_first hij (Region.linearise .any l.toArray t) with hf | hf
  · have w1 := any_drawX (Q := Q) Φ fl hok1 hΦ hl1 d1 h0 h1 h2 h3
    rw [s1] at w1
    rw [hsz] at hL
    exact lin_run R1 _ _ _ _ _ _ hL (none _ fun _ => Iff.rfl) (by simp) (by simp) (fun l1 l2 e => .inl (hf l1 l2 e)) w1
  · have w2 := any_drawX (Q := Q) Φ fl2 hok2 hΦ hl2 d2 h0 h1 h2 h3
    rw [s2] at w2
    rw [hsz] at hL
    exact lin_run R2 _ _ _ _ _ _ hL (none _ fun k => ⟨hsw k, fun h => by have := hsw _ h; rwa [sw_sw] at this⟩) (by simp) (by simp) (fun l1 l2 e => .inl (hf l1 l2 e)) w2
end
end Go.AV
namespace Go.AV.Hist
open Go.AV.Ord Go.AV.Oct
structure Msg where
  id : List UInt8
  body : List UInt8
  ready : Int
  count : Int
  token : List UInt8
  deriving DecidableEq
def M0 : Msg := ⟨[], [], 0, 0, []⟩
def mC (m : Msg) : List DV := [S m.id, S m.body, I m.ready, I m.count, S m.token]
structure Wt where
  key : List UInt8
  val : List UInt8
  gone : Bool
def wC (w : Wt) : List DV := [S w.key, S w.val, TF w.gone]
def wD (w : Wt) : DV := .agg (wC w)
structure Cm where
  seq : Int
  at_ : Int
  ws : List Wt
def cC (c : Cm) : List DV := [I c.seq, I c.at_, .lst 3 (c.ws.map wD)]
def cD (c : Cm) : DV := .agg (cC c)
structure Pl where
  q : List UInt8
  m : Msg
  deriving DecidableEq
def P0 : Pl := ⟨[], M0⟩
def pC (p : Pl) : List DV := S p.q :: mC p.m
def pD (p : Pl) : DV := .agg (pC p)
structure Ev where
  seq : Int
  at_ : Int
  id : List UInt8
  fr : List UInt8
  to : List UInt8
  old : Msg
  new : Msg
  deriving DecidableEq
def eC (e : Ev) : List DV := I e.seq :: I e.at_ :: S e.id :: S e.fr :: S e.to :: (mC e.old ++ mC e.new)
def eD (e : Ev) : DV := .agg (eC e)
theorem mC_one (m : Msg) : ∀ d ∈ mC m, d.one = true := by simp [mC, DV.one, S, I]
theorem wC_one (w : Wt) : ∀ d ∈ wC w, d.one = true := by simp [wC, DV.one, S, TF]
theorem cC_one (c : Cm) : ∀ d ∈ cC c, d.one = true := by simp [cC, DV.one, I]
theorem pC_one (p : Pl) : ∀ d ∈ pC p, d.one = true := by simp [pC, mC, DV.one, S, I]
theorem eC_one (e : Ev) : ∀ d ∈ eC e, d.one = true := by simp [eC, mC, DV.one, S, I]
theorem _root_.Go.AV.ACalls.args {P : Program} {f : FuncId} {args args' : List AV} {H : HS} {R : AV → HS → Prop} (h : ACalls P f args' H R) (hw : Weaks args args') : ACalls P f args H R := by
  intro B w0 c w vs hI hs ha
  exact h B w0 c w vs hI (by rw [hs, hw.len]) (hw.get c (fun i => vs.getD i undef) ha)
section
variable {P : Program} {E : Operand → AV} {H : HS} {dst : Option Tmp} {ty : TypeId} {pos : String} {after : Array Edge} {gd : Option (Nat × Bool)}
theorem agg_vals {m : Mem} {v : Value} {l : List Value} (h : RepD m v (.agg (l.map .v))) : v = .agg l.toArray := by
  generalize ha : DV.agg (l.map DV.v) = d at h
  cases h with
  | agg vs cs hl h1 hr =>
    cases ha
    congr 1
    have hl' : vs.size = l.length := by simpa using hl
    apply Array.ext
    · simpa using hl'
    · intro i hi hi'
      have := (hr i (by simpa using hi'))
      simp only [List.getElem_map] at this
      have := this.v_eq
      simp [hi] at this
      simpa using this
  | _ => cases ha
theorem op_bin_agg {op : BinOp} {x y : Operand} {t t' : TypeId} {X Y : List Value} {r : Bool} (hx : E x = .d (.agg (X.map .v))) (hy : E y = .d (.agg (Y.map .v)))
    (hg : ∀ w, (eqGuard op t x y (.agg X.toArray) (.agg Y.toArray)).run P w = .ok () w) (hr : ∀ w, (binOp op t (.agg X.toArray) (.agg Y.toArray)).run P w = .ok (.bool r) w) : OpR P ⟨dst, .binOp op t x y t', ty, pos, after, gd⟩ E H (Ret (.d (TF r)) H) :=
  opR_pure fun c w a _ hops => by
    have h1 := hops x (by simp [Op.operands])
    have h2 := hops y (by simp [Op.operands])
    rw [hx] at h1
    rw [hy] at h2
    have e1 := agg_vals h1.d_inv
    have e2 := agg_vals h2.d_inv
    refine ⟨.bool r, ?_, .d (.v _ rfl)⟩
    simp [execOp, e1, e2, hg w, hr w]
end
def str (l : List UInt8) : Value := .string ⟨l.toArray⟩
def mV (m : Msg) : List Value := [str m.id, str m.body, .int .i64 m.ready, .int .i64 m.count, str m.token]
def pV (p : Pl) : List Value := str p.q :: mV p.m
theorem Msg.eqI (a b : Msg) : a = b ↔ a.id = b.id ∧ a.body = b.body ∧ a.ready = b.ready ∧ a.count = b.count ∧ a.token = b.token := by
  cases a; cases b; simp
def encM (m : Msg) : List UInt8 := numB m.ready.toNat ++ numB m.count.toNat ++ textB m.token ++ textB m.body
def rM (s : List UInt8) : (Nat × Nat × List UInt8 × List UInt8) × RS :=
  let a := rNum 2199023255552 (s, false)
  let b := rNum 1000 a.2
  let c := rText 400 b.2
  let d := rText 2000 c.2
  ((a.1, b.1, c.1, d.1), d.2)
def decE (s : List UInt8) : Int := if rEnd (rM s).2 = 0 then 0 else 14
def decM (id s : List UInt8) : Msg := if rEnd (rM s).2 = 0 then ⟨id, (rM s).1.2.2.2, (rM s).1.1, (rM s).1.2.1, (rM s).1.2.2.1⟩ else M0
theorem ext4 (Hs : HS) (a b c d : List UInt8) : Ext Hs (upB (upB (upB (upB Hs none a) (some (Hs.tk none)) b) (some (Hs.tk none)) c) (some (Hs.tk none)) d) := by
  rw [up_upB, up_upB, up_upB]
  exact ((Ext.refl Hs).upN (NewTok.none Hs) (HS.ok_none _ 0)).1
def msgT (k : List UInt8) : List UInt8 × List UInt8 × Bool :=
  if partsE k = 0 then match partsA k with
    | [a, q, i] => if a = [109] then (q, i, true) else ([], [], false)
    | _ => ([], [], false)
  else ([], [], false)
theorem msg_err {k : List UInt8} (h : ¬ partsE k = 0) : msgT k = ([], [], false) := by unfold msgT; rw [if_neg h]
theorem msg_len {k : List UInt8} (h : ¬ (partsA k).length = 3) : msgT k = ([], [], false) := by
  unfold msgT
  split
  · split
    · rename_i e; rw [e] at h; exact absurd rfl h
    · rfl
  · rfl
theorem len3 {α : Type} {l : List α} (h : l.length = 3) : ∃ a b c, l = [a, b, c] := by
  match l, h with
  | [a, b, c], _ => exact ⟨a, b, c, rfl⟩
theorem msg_no {k a q i : List UInt8} (h : partsA k = [a, q, i]) (ha : ¬ a = [109]) : msgT k = ([], [], false) := by
  unfold msgT
  rw [h]
  simp [ha]
theorem msg_yes {k q i : List UInt8} (h0 : partsE k = 0) (h : partsA k = [[109], q, i]) : msgT k = (q, i, true) := by
  unfold msgT
  rw [if_pos h0, h]
  simp
end Go.AV.Hist
namespace Go.Proofs.Ytjbpfnoibeogbaa
open Go.AV Go.AV.Ord Go.AV.Oct Go.AV.Hist
set_option linter.unusedVariables false
set_option linter.unusedSimpArgs false
set_option maxRecDepth 100000 in
theorem menc_ok (Hs : HS) (m : Msg) (hr : m.ready ≤ 9223372036854775807) (hc : m.count ≤ 9223372036854775807) (hl : m.token.length + m.body.length ≤ 1000000000) : ACalls Try.prog 21 [.d (.agg (mC m))] Hs (Ret (.d (S (encM m))) Hs) := by
 refine ACalls.tidy1 ?_
 have z1 := szN_8 hr
 have z2 := szN_8 hc
 refine acalls_of_aw Try.func21 rfl ?_
 refine aw_start (T' := [.d (.agg (mC m)), .un, .un, .un, .un, .un, .un, .un, .un, .un, .un, .un, .un, .un, .un, .un, .un, .un]) rfl ?_
 refine aw_seq ?_
 refine aw_region ?_
 refine zst (op_box_elt (cs := [S m.id, S m.body, I m.ready, I m.count, S m.token]) (by rfl) (by rfl)) rfl (by dsimp only [zS, zN, zH, zT]) ?_
 refine zst (op_assign_const (by rfl)) rfl (by dsimp only [zS, zN, zH, zT]) ?_
 refine al_end rfl ?_
 refine then_normal ?_
 refine aw_seq ?_
 refine aw_draw [0, 0, 2, 0, 0, 2, 0] mixed (by kernel_rfl) ?_
 refine zd0 (fun H => (by first | exact op_fieldAddr_ptr Try.underlying58 rfl Sz3 (by rfl) (by rfl) | exact op_fieldAddr_elt Try.underlying58 rfl Sz3 (by rfl) (by rfl) (by rfl))) rfl (by dsimp only [zS, zN, zH, zT]) ?_
 refine zd0 (fun H => (by first | exact op_load_elt Try.underlying3 (by rfl) (by rfl) (by rfl) | exact op_load_ptr Try.underlying3 (by rfl) (by rfl) (by rfl) (by rfl))) rfl (by dsimp only [zS, zN, zH, zT]) ?_
 refine zd2 (op_callF Try.func54 (by rfl) (by rfl) (.const (by rfl) (.tmp (by rfl) .nil)) (onum_ok _ none _ [] m.ready (App.nil _) (HS.ok_none _ _) hr (by simp))) rfl (by dsimp only [zS, zN, zH, zT]) ?_
 refine zd0 (fun H => (by first | exact op_fieldAddr_ptr Try.underlying58 rfl Sz3 (by rfl) (by rfl) | exact op_fieldAddr_elt Try.underlying58 rfl Sz3 (by rfl) (by rfl) (by rfl))) rfl (by dsimp only [zS, zN, zH, zT]) ?_
 refine zd0 (fun H => (by first | exact op_load_elt Try.underlying3 (by rfl) (by rfl) (by rfl) | exact op_load_ptr Try.underlying3 (by rfl) (by rfl) (by rfl) (by rfl))) rfl (by dsimp only [zS, zN, zH, zT]) ?_
 refine zd2 (op_callF Try.func54 (by rfl) (by rfl) (.tmp (by rfl) (.tmp (by rfl) .nil)) (onum_ok _ _ _ _ m.count (App.own _ _ _) (okB _ none _ (HS.ok_none _ 0)) hc (by simp [numB_len]; omega))) rfl (by dsimp only [zS, zN, zH, zT]) ?_
 refine zd0 (fun H => (op_assign_tmp (by rfl))) rfl (by dsimp only [zS, zN, zH, zT]) ?_
 refine drun_end rfl ?_
 refine then_normal ?_
 refine aw_seq ?_
 refine aw_draw [0, 0, 0, 2, 0, 0, 2, 0, 0] mixed (by kernel_rfl) ?_
 refine zd0 (fun H => (op_move_tmp (by rfl))) rfl (by dsimp only [zS, zN, zH, zT]) ?_
 refine zd0 (fun H => (by first | exact op_fieldAddr_ptr Try.underlying58 rfl Sz9 (by rfl) (by rfl) | exact op_fieldAddr_elt Try.underlying58 rfl Sz9 (by rfl) (by rfl) (by rfl))) rfl (by dsimp only [zS, zN, zH, zT]) ?_
 refine zd0 (fun H => (by first | exact op_load_elt Try.underlying9 (by rfl) (by rfl) (by rfl) | exact op_load_ptr Try.underlying9 (by rfl) (by rfl) (by rfl) (by rfl))) rfl (by dsimp only [zS, zN, zH, zT]) ?_
 refine zd2 (op_callF Try.func55 (by rfl) (by rfl) (.tmp (by rfl) (.tmp (by rfl) .nil)) (otext_ok _ _ _ _ m.token (App.own _ _ _) (okB _ (some (Hs.tk none)) _ (okB _ none _ (HS.ok_none _ 0))) (by simp [numB_len]; omega))) rfl (by dsimp only [zS, zN, zH, zT]) ?_
 refine zd0 (fun H => (by first | exact op_fieldAddr_ptr Try.underlying58 rfl Sz9 (by rfl) (by rfl) | exact op_fieldAddr_elt Try.underlying58 rfl Sz9 (by rfl) (by rfl) (by rfl))) rfl (by dsimp only [zS, zN, zH, zT]) ?_
 refine zd0 (fun H => (by first | exact op_load_elt Try.underlying9 (by rfl) (by rfl) (by rfl) | exact op_load_ptr Try.underlying9 (by rfl) (by rfl) (by rfl) (by rfl))) rfl (by dsimp only [zS, zN, zH, zT]) ?_
 refine zd2 (op_callF Try.func55 (by rfl) (by rfl) (.tmp (by rfl) (.tmp (by rfl) .nil)) (otext_ok _ _ _ _ m.body (App.own _ _ _) (okB _ (some (Hs.tk none)) _ (okB _ (some (Hs.tk none)) _ (okB _ none _ (HS.ok_none _ 0)))) (by simp [numB_len, textB]; have := szN_8 (n := m.token.length) (by omega); simp at this; omega))) rfl (by dsimp only [zS, zN, zH, zT]) ?_
 refine zd0 (fun H => (op_string Try.underlying49 Try.underlying9 Try.underlying5 (LL.own _ _ _) (by rfl))) rfl (by dsimp only [zS, zN, zH, zT]) ?_
 refine zd0 (fun H => (op_assign_tmp (by rfl))) rfl (by dsimp only [zS, zN, zH, zT]) ?_
 refine drun_end rfl ?_
 refine then_normal ?_
 refine aw_ret ?_
 refine retPost1 rfl rfl ?_
 exact ⟨by simp [encM], ext4 Hs _ _ _ _⟩
theorem rtext_at {Hs : HS} {id : Nat} {s s' t : List UInt8} {bad bad' : Bool} {most : Int} (hr : rText most (s, bad) = (t, (s', bad'))) (hb : Hs.blks[id]? = some (RB 179 (s, bad))) (hm : most ≤ 9223372036854775807) : ACalls Try.prog 58 [.ptr id 0, .d (I most)] Hs (Ret (.d (S t)) (Hs.setB id (RB 179 (s', bad')))) := by
  have h := rtext_ok Hs id s bad most hb hm
  rwa [hr] at h
set_option maxHeartbeats 4000000 in
set_option maxRecDepth 100000 in
theorem mdec_ok (Hs : HS) (id s : List UInt8) : ACalls Try.prog 22 [.d (S id), .d (S s)] Hs (Ret (.tup [.d (.agg (mC (decM id s))), .d (I (decE s))]) Hs) := by
 refine ACalls.tidyT (xs := [.agg (mC (decM id s)), I (decE s)]) ?_
 suffices h : ACalls Try.prog 22 [.d (S id), .d (S s)] Hs (fun av H' => ∃ x, av = .tup [x, .d (I (decE s))] ∧ Weak x (.d (.agg (mC (decM id s)))) ∧ Ext Hs H') from h.weak fun v H' ⟨x, h1, h2, h3⟩ => ⟨_, by rw [h1]; exact Weak.tup (.cons h2 (.cons (Weak.refl _) .nil)), rfl, h3⟩
 obtain ⟨r, ⟨s1, b1⟩, h1⟩ : ∃ q st, rNum 2199023255552 (s, false) = (q, st) := ⟨_, _, rfl⟩
 obtain ⟨n, ⟨s2, b2⟩, h2⟩ : ∃ q st, rNum 1000 (s1, b1) = (q, st) := ⟨_, _, rfl⟩
 obtain ⟨tk, ⟨s3, b3⟩, h3⟩ : ∃ q st, rText 400 (s2, b2) = (q, st) := ⟨_, _, rfl⟩
 obtain ⟨bd, ⟨s4, b4⟩, h4⟩ : ∃ q st, rText 2000 (s3, b3) = (q, st) := ⟨_, _, rfl⟩
 have hM : rM s = ((r, n, tk, bd), (s4, b4)) := by unfold rM; simp only [h1, h2, h3, h4]
 refine acalls_of_awC Try.func22 rfl ?_
 refine aw_start (T' := [.d (S id), .d (S s), .un, .un, .un, .un, .un, .un, .un, .un, .un, .un, .un, .un, .un, .un, .un, .un, .un, .un, .un, .un, .un, .un, .un, .un, .un]) rfl ?_
 refine aw_seq ?_
 refine aw_region ?_
 refine zst (op_alloc (Zr58) (by rfl)) rfl (by dsimp only [zS, zN, zH, zT]) ?_
 refine zst (op_assign_const (by rfl)) rfl (by dsimp only [zS, zN, zH, zT]) ?_
 refine al_end rfl ?_
 refine then_normal ?_
 refine aw_seq ?_
 refine aw_region ?_
 refine zst (op_move_tmp (by rfl)) rfl (by dsimp only [zS, zN, zH, zT]) ?_
 refine zst (op_callF Try.func56 (by rfl) (by rfl) (.tmp (by rfl) .nil) (read_ok _ s)) rfl (by dsimp only [zS, zN, zH, zT]) ?_
 refine zst (op_assign_tmp (by rfl)) rfl (by dsimp only [zS, zN, zH, zT]) ?_
 refine al_end rfl ?_
 refine then_normal ?_
 refine aw_seq ?_
 refine aw_region ?_
 refine zst (op_move_tmp (by rfl)) rfl (by dsimp only [zS, zN, zH, zT]) ?_
 refine zst (op_move_tmp (by rfl)) rfl (by dsimp only [zS, zN, zH, zT]) ?_
 refine zst (op_callF Try.func57 (by rfl) (by rfl) (.tmp (by rfl) (.const (by rfl) .nil)) (num_at h1 (by repeat (first | assumption | exact push_at | exact setB_at push_at | (rw [pushM_blks]) | (rw [setM_blks]) | (rw [setB_ne (by simp only [setB_nb, push_nb, pushM_nb, setM_nb, ne_eq]; omega)]) | apply push_ne | apply setB_at)) (by decide))) rfl (by dsimp only [zS, zN, zH, zT]) ?_
 refine zst (op_move_tmp (by rfl)) rfl (by dsimp only [zS, zN, zH, zT]) ?_
 refine zst (op_callF Try.func57 (by rfl) (by rfl) (.tmp (by rfl) (.const (by rfl) .nil)) (num_at h2 (by repeat (first | assumption | exact push_at | exact setB_at push_at | (rw [pushM_blks]) | (rw [setM_blks]) | (rw [setB_ne (by simp only [setB_nb, push_nb, pushM_nb, setM_nb, ne_eq]; omega)]) | apply push_ne | apply setB_at)) (by decide))) rfl (by dsimp only [zS, zN, zH, zT]) ?_
 refine zst (by first | exact op_buildD (pl := [(0, 1), (1, 1), (2, 1), (3, 1), (4, 1)]) _ Try.underlying58 Zr58 (by kernel_rfl) (by rfl) (by rfl) (by rfl) (by simp [DV.one, S, I, TF, BY]) | exact op_build (pl := [(0, 1), (1, 1), (2, 1), (3, 1), (4, 1)]) Try.underlying58 Zr58 (by kernel_rfl) (by rfl) (by rfl) (by rfl)) rfl (by dsimp only [zS, zN, zH, zT]) ?_
 refine zst (op_alloc (Zr58) (by rfl)) rfl (by dsimp only [zS, zN, zH, zT]) ?_
 refine zst (op_storeB (vs := [.d (S id), .d (S []), .d (I r), .d (I n), .d (S [])]) (b' := ⟨58, [.d (S id), .d (S []), .d (I r), .d (I n), .d (S [])], false⟩) (H' := _) Sz58 (by rfl) push_at (by intro h; cases h) (by rfl) (by rfl) (Nat.le_of_ble_eq_true rfl) (by simp [AV.one, DV.one, TF, S, I, BY]) (by rfl) (by rfl) rfl) rfl (by dsimp only [zS, zN, zH, zT]) ?_
 refine al_end rfl ?_
 refine then_normal ?_
 refine aw_seq ?_
 refine aw_region ?_
 refine zst (op_move_tmp (by rfl)) rfl (by dsimp only [zS, zN, zH, zT]) ?_
 refine zst (op_callF Try.func58 (by rfl) (by rfl) (.tmp (by rfl) (.const (by rfl) .nil)) (rtext_at h3 (by repeat (first | assumption | exact push_at | exact setB_at push_at | (rw [pushM_blks]) | (rw [setM_blks]) | (rw [setB_ne (by simp only [setB_nb, push_nb, pushM_nb, setM_nb, ne_eq]; omega)]) | apply push_ne | apply setB_at)) (by decide))) rfl (by dsimp only [zS, zN, zH, zT]) ?_
 refine zst (op_move_tmp (by rfl)) rfl (by dsimp only [zS, zN, zH, zT]) ?_
 refine zst (op_callF Try.func58 (by rfl) (by rfl) (.tmp (by rfl) (.const (by rfl) .nil)) (rtext_at h4 (by repeat (first | assumption | exact push_at | exact setB_at push_at | (rw [pushM_blks]) | (rw [setM_blks]) | (rw [setB_ne (by simp only [setB_nb, push_nb, pushM_nb, setM_nb, ne_eq]; omega)]) | apply push_ne | apply setB_at)) (by decide))) rfl (by dsimp only [zS, zN, zH, zT]) ?_
 refine zst (by first | exact op_fieldAddr_ptr Try.underlying58 rfl Sz9 (by rfl) (by rfl) | exact op_fieldAddr_elt Try.underlying58 rfl Sz9 (by rfl) (by rfl) (by rfl)) rfl (by dsimp only [zS, zN, zH, zT]) ?_
 refine zst (op_storeB (vs := [.d (S tk)]) (b' := ⟨58, [.d (S id), .d (S []), .d (I r), .d (I n), .d (S tk)], false⟩) (H' := _) Sz9 (by rfl) (by repeat (first | assumption | exact push_at | exact setB_at push_at | (rw [pushM_blks]) | (rw [setM_blks]) | (rw [setB_ne (by simp only [setB_nb, push_nb, pushM_nb, setM_nb, ne_eq]; omega)]) | apply push_ne | apply setB_at)) (by intro h; cases h) (by rfl) (by rfl) (Nat.le_of_ble_eq_true rfl) (by simp [AV.one, DV.one, TF, S, I, BY]) (by rfl) (by rfl) rfl) rfl (by dsimp only [zS, zN, zH, zT]) ?_
 refine zst (by first | exact op_fieldAddr_ptr Try.underlying58 rfl Sz9 (by rfl) (by rfl) | exact op_fieldAddr_elt Try.underlying58 rfl Sz9 (by rfl) (by rfl) (by rfl)) rfl (by dsimp only [zS, zN, zH, zT]) ?_
 refine zst (op_storeB (vs := [.d (S bd)]) (b' := ⟨58, [.d (S id), .d (S bd), .d (I r), .d (I n), .d (S tk)], false⟩) (H' := _) Sz9 (by rfl) (by repeat (first | assumption | exact push_at | exact setB_at push_at | (rw [pushM_blks]) | (rw [setM_blks]) | (rw [setB_ne (by simp only [setB_nb, push_nb, pushM_nb, setM_nb, ne_eq]; omega)]) | apply push_ne | apply setB_at)) (by intro h; cases h) (by rfl) (by rfl) (Nat.le_of_ble_eq_true rfl) (by simp [AV.one, DV.one, TF, S, I, BY]) (by rfl) (by rfl) rfl) rfl (by dsimp only [zS, zN, zH, zT]) ?_
 refine al_end rfl ?_
 refine then_normal ?_
 refine aw_seq ?_
 refine aw_seq ?_
 refine aw_region ?_
 refine zst (op_move_tmp (by rfl)) rfl (by dsimp only [zS, zN, zH, zT]) ?_
 refine zst (op_callF Try.func59 (by rfl) (by rfl) (.tmp (by rfl) .nil) (end_ok _ _ s4 b4 (by repeat (first | assumption | exact push_at | exact setB_at push_at | (rw [pushM_blks]) | (rw [setM_blks]) | (rw [setB_ne (by simp only [setB_nb, push_nb, pushM_nb, setM_nb, ne_eq]; omega)]) | apply push_ne | apply setB_at)))) rfl (by dsimp only [zS, zN, zH, zT]) ?_
 refine zst (op_neI (by rfl) (by rfl)) rfl (by dsimp only [zS, zN, zH, zT]) ?_
 refine al_end rfl ?_
 refine then_normal ?_
 refine aw_cond rfl (fun hc1 => ?_) (fun hc1 => ?_)
 ·
  (try simp only [y1, y2, y3, y4, y5, y6, y7, y8, y9, y0, List.length_map] at hc1)
  have hne : ¬ rEnd (s4, b4) = 0 := hc1
  refine aw_seq ?_
  refine aw_region ?_
  refine zst (by first | exact op_buildD (pl := [(0, 1), (1, 1), (2, 1), (3, 1), (4, 1)]) _ Try.underlying58 Zr58 (by kernel_rfl) (by rfl) (by rfl) (by rfl) (by simp [DV.one, S, I, TF, BY]) | exact op_build (pl := [(0, 1), (1, 1), (2, 1), (3, 1), (4, 1)]) Try.underlying58 Zr58 (by kernel_rfl) (by rfl) (by rfl) (by rfl)) rfl (by dsimp only [zS, zN, zH, zT]) ?_
  refine zst (op_storeB (vs := [.d (S []), .d (S []), .d (I 0), .d (I 0), .d (S [])]) (b' := ⟨58, [.d (S []), .d (S []), .d (I 0), .d (I 0), .d (S [])], false⟩) (H' := _) Sz58 (by rfl) (by repeat (first | assumption | exact push_at | exact setB_at push_at | (rw [pushM_blks]) | (rw [setM_blks]) | (rw [setB_ne (by simp only [setB_nb, push_nb, pushM_nb, setM_nb, ne_eq]; omega)]) | apply push_ne | apply setB_at)) (by intro h; cases h) (by rfl) (by rfl) (Nat.le_of_ble_eq_true rfl) (by simp [AV.one, DV.one, TF, S, I, BY]) (by rfl) (by rfl) rfl) rfl (by dsimp only [zS, zN, zH, zT]) ?_
  refine zst (op_assign_const (by rfl)) rfl (by dsimp only [zS, zN, zH, zT]) ?_
  refine al_end rfl ?_
  refine then_normal ?_
  refine aw_ret ?_
  refine then_ret ?_
  refine retC2 rfl (.cells Try.underlying58 (by rfl) Sz58 (by rfl) (setB_at (by repeat (first | assumption | exact push_at | exact setB_at push_at | (rw [pushM_blks]) | (rw [setM_blks]) | (rw [setB_ne (by simp only [setB_nb, push_nb, pushM_nb, setM_nb, ne_eq]; omega)]) | apply push_ne | apply setB_at))) (Nat.le_of_ble_eq_true rfl) (by rfl)) (.tmp (by rfl)) ?_
  exact ⟨_, by unfold decE; rw [hM, if_neg hne]; rfl, by unfold decM; rw [hM, if_neg hne]; exact Weak.aggD (.cons (Weak.refl _) (.cons (Weak.refl _) (.cons (Weak.refl _) (.cons (Weak.refl _) (.cons (Weak.refl _) .nil))))) (mC_one M0), (by repeat (first | exact Ext.refl _ | apply Ext.push | (refine Ext.setB ?_ (by (try simp only [setB_nb, push_nb]); omega))))⟩
 ·
  (try simp only [y1, y2, y3, y4, y5, y6, y7, y8, y9, y0, List.length_map] at hc1)
  have heq : rEnd (s4, b4) = 0 := by simpa using hc1
  refine aw_skip ?_
  refine then_normal ?_
  refine aw_seq ?_
  refine aw_region ?_
  refine zst (by first | exact op_load_elts Try.underlying58 (by rfl) Sz58 (by rfl) (by simp) (by rfl) | exact op_load_ptrs Try.underlying58 (by rfl) Sz58 (by rfl) (by repeat (first | assumption | exact push_at | exact setB_at push_at | (rw [pushM_blks]) | (rw [setM_blks]) | (rw [setB_ne (by simp only [setB_nb, push_nb, pushM_nb, setM_nb, ne_eq]; omega)]) | apply push_ne | apply setB_at)) (by simp) (by rfl)) rfl (by dsimp only [zS, zN, zH, zT]) ?_
  refine zst (op_storeB (vs := [.d (S id), .d (S bd), .d (I r), .d (I n), .d (S tk)]) (b' := ⟨58, [.d (S id), .d (S bd), .d (I r), .d (I n), .d (S tk)], false⟩) (H' := _) Sz58 (by rfl) (by repeat (first | assumption | exact push_at | exact setB_at push_at | (rw [pushM_blks]) | (rw [setM_blks]) | (rw [setB_ne (by simp only [setB_nb, push_nb, pushM_nb, setM_nb, ne_eq]; omega)]) | apply push_ne | apply setB_at)) (by intro h; cases h) (by rfl) (by rfl) (Nat.le_of_ble_eq_true rfl) (by simp [AV.one, DV.one, TF, S, I, BY]) (by rfl) (by rfl) rfl) rfl (by dsimp only [zS, zN, zH, zT]) ?_
  refine zst (op_assign_const (by rfl)) rfl (by dsimp only [zS, zN, zH, zT]) ?_
  refine al_end rfl ?_
  refine then_normal ?_
  refine aw_ret ?_
  refine retC2 rfl (.cells Try.underlying58 (by rfl) Sz58 (by rfl) (setB_at (by repeat (first | assumption | exact push_at | exact setB_at push_at | (rw [pushM_blks]) | (rw [setM_blks]) | (rw [setB_ne (by simp only [setB_nb, push_nb, pushM_nb, setM_nb, ne_eq]; omega)]) | apply push_ne | apply setB_at))) (Nat.le_of_ble_eq_true rfl) (by rfl)) (.tmp (by rfl)) ?_
  exact ⟨_, by unfold decE; rw [hM, if_pos heq]; rfl, by unfold decM; rw [hM, if_pos heq]; exact Weak.aggD (.cons (Weak.refl _) (.cons (Weak.refl _) (.cons (Weak.refl _) (.cons (Weak.refl _) (.cons (Weak.refl _) .nil))))) (mC_one _), (by repeat (first | exact Ext.refl _ | apply Ext.push | (refine Ext.setB ?_ (by (try simp only [setB_nb, push_nb]); omega))))⟩
end Go.Proofs.Ytjbpfnoibeogbaa
namespace Go.Proofs.Ytjbpfnoibeogbaa
open Go.AV Go.AV.Ord
set_option linter.unusedVariables false
set_option linter.unusedSimpArgs false
set_option maxRecDepth 100000 in
theorem text_ok (Hs : HS) (t : Option Nat) (v : AV) (bs s : List UInt8) (hv : App v t 1 (bs.map BY)) (hok : Hs.ok t bs.length) (hb : bs.length + 2 * s.length + 2 ≤ 140737488355328) : ACalls Try.prog 82 [v, .d (S s)] Hs (Ret (ownB Hs t (bs ++ encT s)) (upB Hs t (bs ++ encT s))) := by
 refine acalls_of_aw Try.func82 rfl ?_
 refine aw_start (T' := [v, .d (S s), .un, .un, .un, .un, .un, .un, .un, .un, .un, .un, .un, .un, .un, .un, .un, .un, .un, .un, .un, .un, .un, .un, .un, .un, .un]) rfl ?_
 refine aw_seq ?_
 refine aw_region ?_
 refine zst (op_assign_const (by rfl)) rfl (by dsimp only [zS, zN, zH, zT]) ?_
 refine al_end rfl ?_
 refine then_normal ?_
 refine aw_seq ?_
 refine aw_seq ?_
 refine aw_region ?_
 refine zst (op_move_tmp (by rfl)) rfl (by dsimp only [zS, zN, zH, zT]) ?_
 refine zst (op_bytes Try.underlying9 Try.underlying49 Try.underlying5 (by rfl)) rfl (by dsimp only [zS, zN, zH, zT]) ?_
 refine zst (op_lenL Try.underlying49 (by first | exact LL.d _ _ | exact LL.own _ _ _ | exact LL.nil _ | assumption)) rfl (by dsimp only [zS, zN, zH, zT]) ?_
 refine zst (op_move_const (by rfl)) rfl (by dsimp only [zS, zN, zH, zT]) ?_
 refine al_end rfl ?_
 refine then_normal ?_
 refine aw_block ?_
 apply aw_loopF (fun n T H => ∃ (k : Nat) (v' : AV), T = [v', .d (S s), .un, .un, .un, .un, .un, .un, .d (.lst 1 (s.map BY)), .d (I (s.map BY).length), .d (I k), .un, .un, .un, .un, .un, .un, .un, .un, .un, .un, .un, .un, .un, .un, .un, .un] ∧ k ≤ s.length ∧ n = s.length - k ∧ Bytes Hs t v' H (bs ++ enc0 (s.take k))) (s.length) [true, true, false, false, false, false, false, false, true, true, true, false, false, false, false, false, false, false, false, false, false, false, false, false, false, false, false]
 · (try dsimp only [maskT]); try exact rfl
 · rfl
 · exact ⟨0, v, rfl, Nat.zero_le _, rfl, by simpa [enc0] using Bytes.own hv hok⟩
 rintro n T H ⟨k, v', rfl, hk, rfl, hB⟩
 obtain ⟨t', hApp, hHeir, hOk⟩ := hB.ex
 have hE := enc0_len (s.take k)
 have hT : (s.take k).length = k := by simp; omega
 rw [hT] at hE
 refine aw_seq ?_
 refine aw_region ?_
 refine zst (op_ltI (by rfl) (by rfl)) rfl (by dsimp only [zS, zN, zH, zT]) ?_
 refine al_end rfl ?_
 refine then_normal ?_
 refine aw_seq ?_
 refine aw_cond rfl (fun hc1 => ?_) (fun hc1 => ?_)
 ·
  (try simp only [y1, y2, y3, y4, y5, y6, y7, y8, y9, y0, List.length_map] at hc1)
  (try simp only [List.length_map] at hc1)
  have hlt : k < s.length := by omega
  obtain ⟨c, hcc⟩ : ∃ c, s[k]? = some c := ⟨_, List.getElem?_eq_getElem hlt⟩
  refine aw_skip ?_
  refine then_normal ?_
  refine aw_seq ?_
  refine aw_block ?_
  refine aw_seq ?_
  refine aw_region ?_
  refine zst (op_indexAddr Try.underlying49 Sz5 (LL.d _ _) (by rfl) (by omega) (show (s.map BY)[((k : Nat) : Int).toNat]? = some (BY c) by simp [hcc]) (by rfl)) rfl (by dsimp only [zS, zN, zH, zT]) ?_
  refine zst (by first | exact op_load_elt Try.underlying5 (by rfl) (by rfl) (by rfl) | exact op_load_ptr Try.underlying5 (by rfl) (by rfl) (by rfl) (by rfl)) rfl (by dsimp only [zS, zN, zH, zT]) ?_
  refine zst (op_assign_tmp (by rfl)) rfl (by dsimp only [zS, zN, zH, zT]) ?_
  refine al_end rfl ?_
  refine then_normal ?_
  refine aw_seq ?_
  refine aw_region ?_
  refine zst (op_move_tmp (by rfl)) rfl (by dsimp only [zS, zN, zH, zT]) ?_
  refine zst (op_move_tmp (by rfl)) rfl (by dsimp only [zS, zN, zH, zT]) ?_
  refine zst (op_lit Try.underlying49 ZS5 (.cons (by rfl) (.nil _)) (by rfl) (by simp [BY, S, I, TF, DV.cells]) (by simp [flat, BY, S, I, TF, DV.cells, DV.one]) (by decide)) rfl (by dsimp only [zS, zN, zH, zT]) ?_
  refine zst (op_append Try.underlying49 Inf5 (by rfl) hApp (.list _ _ _ _ Try.underlying49 (LL.own _ _ _)) (by simpa using hOk) (by simp) (by simp <;> omega) (by simp <;> omega)) rfl (by dsimp only [zS, zN, zH, zT]) ?_
  refine zst (op_assign_tmp (by rfl)) rfl (by dsimp only [zS, zN, zH, zT]) ?_
  refine al_end rfl ?_
  refine then_normal ?_
  refine aw_seq ?_
  refine aw_region ?_
  refine zst (op_move_tmp (by rfl)) rfl (by dsimp only [zS, zN, zH, zT]) ?_
  refine zst (op_eqI (by rfl) (by rfl)) rfl (by dsimp only [zS, zN, zH, zT]) ?_
  refine al_end rfl ?_
  refine then_normal ?_
  refine aw_cond rfl (fun hc2 => ?_) (fun hc2 => ?_)
  ·
   (try simp only [y1, y2, y3, y4, y5, y6, y7, y8, y9, y0, List.length_map] at hc2)
   have hc0 : c = 0 := UInt8.toNat_inj.1 (by have : ((c.toNat : Nat) : Int) = 0 := hc2; simpa using this)
   refine aw_region ?_
   refine zst (op_move_tmp (by rfl)) rfl (by dsimp only [zS, zN, zH, zT]) ?_
   refine zst (op_lit Try.underlying49 ZS5 (.cons (by rfl) (.nil _)) (by rfl) (by simp [BY, S, I, TF, DV.cells]) (by simp [flat, BY, S, I, TF, DV.cells, DV.one]) (by decide)) rfl (by dsimp only [zS, zN, zH, zT]) ?_
   refine zst (op_append Try.underlying49 Inf5 (by rfl) (App.own _ _ _) (.list _ _ _ _ Try.underlying49 (LL.own _ _ _)) (HS.ok_up' hOk (by simp <;> omega)) (by simp) (by simp <;> omega) (by simp <;> omega)) rfl (by dsimp only [zS, zN, zH, zT]) ?_
   refine zst (op_assign_tmp (by rfl)) rfl (by dsimp only [zS, zN, zH, zT]) ?_
   refine al_end rfl ?_
   refine inBlock_normal (then_normal ?_)
   refine aw_region ?_
   refine zst (by first | exact op_add (by rfl) (by rfl) (wrap_i64 ⟨by omega, by omega⟩) | exact op_add (by rfl) (by rfl) (by rfl)) rfl (by dsimp only [zS, zN, zH, zT]) ?_
   refine zst (op_move_tmp (by rfl)) rfl (by dsimp only [zS, zN, zH, zT]) ?_
   refine al_end rfl ?_
   apply again_to (s.length - (k + 1)) [true, true, false, false, false, false, false, false, true, true, true, false, false, false, false, false, false, false, false, false, false, false, false, false, false, false, false]
   · (try dsimp only [maskT]); try exact rfl
   · rfl
   · omega
   exact ⟨k + 1, _, rfl, by omega, rfl, Bytes.grown' (hHeir.step _) (HS.ok_up' hOk rfl) (by subst hc0; simp [take_snoc hcc, enc0_snoc, enc1, BY]) (by simp <;> omega)⟩
  ·
   (try simp only [y1, y2, y3, y4, y5, y6, y7, y8, y9, y0, List.length_map] at hc2)
   have hc0 : c ≠ 0 := by intro e; subst e; exact absurd hc2 (by decide)
   refine aw_skip ?_
   refine inBlock_normal (then_normal ?_)
   refine aw_region ?_
   refine zst (by first | exact op_add (by rfl) (by rfl) (wrap_i64 ⟨by omega, by omega⟩) | exact op_add (by rfl) (by rfl) (by rfl)) rfl (by dsimp only [zS, zN, zH, zT]) ?_
   refine zst (op_move_tmp (by rfl)) rfl (by dsimp only [zS, zN, zH, zT]) ?_
   refine al_end rfl ?_
   apply again_to (s.length - (k + 1)) [true, true, false, false, false, false, false, false, true, true, true, false, false, false, false, false, false, false, false, false, false, false, false, false, false, false, false]
   · (try dsimp only [maskT]); try exact rfl
   · rfl
   · omega
   exact ⟨k + 1, _, rfl, by omega, rfl, Bytes.grown' hHeir hOk (by simp [take_snoc hcc, enc0_snoc, enc1, hc0]) (by simp <;> omega)⟩
 ·
  (try simp only [y1, y2, y3, y4, y5, y6, y7, y8, y9, y0, List.length_map] at hc1)
  (try simp only [List.length_map] at hc1)
  have hke : k = s.length := by omega
  subst hke
  simp only [List.take_length] at hApp hOk hE
  refine aw_exit ?_
  refine then_exit (again_exit (inBlock_here (then_normal ?_)))
  refine aw_seq ?_
  refine aw_region ?_
  refine zst (op_move_tmp (by rfl)) rfl (by dsimp only [zS, zN, zH, zT]) ?_
  refine zst (op_lit Try.underlying49 ZS5 (.cons (by rfl) (.cons (by rfl) (.nil _))) (by rfl) (by simp [BY, S, I, TF, DV.cells]) (by simp [flat, BY, S, I, TF, DV.cells, DV.one]) (by decide)) rfl (by dsimp only [zS, zN, zH, zT]) ?_
  refine zst (op_append Try.underlying49 Inf5 (by rfl) hApp (.list _ _ _ _ Try.underlying49 (LL.own _ _ _)) (by simpa using hOk) (by simp) (by simp <;> omega) (by simp <;> omega)) rfl (by dsimp only [zS, zN, zH, zT]) ?_
  refine zst (op_assign_tmp (by rfl)) rfl (by dsimp only [zS, zN, zH, zT]) ?_
  refine al_end rfl ?_
  refine then_normal ?_
  refine aw_ret ?_
  refine retPost1 rfl rfl ?_
  refine ⟨?_, ?_⟩
  · rw [hHeir.tk]; simp [ownB, encT, BY]
  · rw [hHeir.up]; simp [upB, encT, Nat.add_assoc]
set_option maxRecDepth 100000 in
theorem key_ok (Hs : HS) (v : AV) (ps : List (List UInt8)) (hv : LL v 1 (ps.map S)) (hb : 2 * (ps.map List.length).sum + 2 * ps.length ≤ 140737488355328) : ACalls Try.prog 51 [v] Hs (Ret (.d (S (keyL ps))) Hs) := by
 refine ACalls.tidy1 ?_
 refine acalls_of_aw Try.func51 rfl ?_
 refine aw_start (T' := [v, .un, .un, .un, .un, .un, .un, .un, .un, .un, .un, .un, .un, .un, .un, .un, .un, .un]) rfl ?_
 refine aw_seq ?_
 refine aw_region ?_
 refine zst (op_assign_const (by rfl)) rfl (by dsimp only [zS, zN, zH, zT]) ?_
 refine al_end rfl ?_
 refine then_normal ?_
 refine aw_seq ?_
 refine aw_region ?_
 refine zst (op_assign_const (by rfl)) rfl (by dsimp only [zS, zN, zH, zT]) ?_
 refine al_end rfl ?_
 refine then_normal ?_
 refine aw_seq ?_
 refine aw_seq ?_
 refine aw_region ?_
 refine zst (op_move_tmp (by rfl)) rfl (by dsimp only [zS, zN, zH, zT]) ?_
 refine zst (op_lenL Try.underlying52 hv) rfl (by dsimp only [zS, zN, zH, zT]) ?_
 refine zst (op_move_const (by rfl)) rfl (by dsimp only [zS, zN, zH, zT]) ?_
 refine al_end rfl ?_
 refine then_normal ?_
 refine aw_block ?_
 apply aw_loopF (fun n T H => ∃ (k : Nat) (v' : AV), T = [.un, .un, .un, v', .un, .un, v, .d (I (ps.map S).length), .d (I k), .un, .un, .un, .un, .un, .un, .un, .un, .un] ∧ k ≤ ps.length ∧ n = ps.length - k ∧ Bytes Hs none v' H (keyL (ps.take k))) (ps.length) [false, false, false, true, false, false, true, true, true, false, false, false, false, false, false, false, false, false]
 · (try dsimp only [maskT]); try exact rfl
 · rfl
 · exact ⟨0, _, rfl, Nat.zero_le _, rfl, Bytes.own (App.nil _) (HS.ok_none _ _)⟩
 rintro n T H ⟨k, v', rfl, hk, rfl, hB⟩
 obtain ⟨t', hApp, hHeir, hOk⟩ := hB.ex
 refine aw_seq ?_
 refine aw_region ?_
 refine zst (op_ltI (by rfl) (by rfl)) rfl (by dsimp only [zS, zN, zH, zT]) ?_
 refine al_end rfl ?_
 refine then_normal ?_
 refine aw_seq ?_
 refine aw_cond rfl (fun hc1 => ?_) (fun hc1 => ?_)
 ·
  (try simp only [y1, y2, y3, y4, y5, y6, y7, y8, y9, y0, List.length_map] at hc1)
  (try simp only [List.length_map] at hc1)
  have hlt : k < ps.length := by omega
  obtain ⟨p, hcc⟩ : ∃ c, ps[k]? = some c := ⟨_, List.getElem?_eq_getElem hlt⟩
  have hL := keyL_len hcc
  refine aw_skip ?_
  refine then_normal ?_
  refine aw_seq ?_
  refine aw_block ?_
  refine aw_seq ?_
  refine aw_region ?_
  refine zst (op_indexAddr Try.underlying52 Sz9 hv (by rfl) (by omega) (show (ps.map S)[((k : Nat) : Int).toNat]? = some (S p) by simp [hcc]) (by rfl)) rfl (by dsimp only [zS, zN, zH, zT]) ?_
  refine zst (by first | exact op_load_elt Try.underlying9 (by rfl) (by rfl) (by rfl) | exact op_load_ptr Try.underlying9 (by rfl) (by rfl) (by rfl) (by rfl)) rfl (by dsimp only [zS, zN, zH, zT]) ?_
  refine zst (op_assign_tmp (by rfl)) rfl (by dsimp only [zS, zN, zH, zT]) ?_
  refine al_end rfl ?_
  refine then_normal ?_
  refine aw_region ?_
  refine zst (op_move_tmp (by rfl)) rfl (by dsimp only [zS, zN, zH, zT]) ?_
  refine zst (op_move_tmp (by rfl)) rfl (by dsimp only [zS, zN, zH, zT]) ?_
  refine zst (op_callF Try.func82 (by rfl) (by rfl) (.tmp (by rfl) (.tmp (by rfl) .nil)) (text_ok _ t' _ _ p hApp hOk (by omega))) rfl (by dsimp only [zS, zN, zH, zT]) ?_
  refine zst (op_assign_tmp (by rfl)) rfl (by dsimp only [zS, zN, zH, zT]) ?_
  refine al_end rfl ?_
  refine inBlock_normal (then_normal ?_)
  refine aw_region ?_
  refine zst (by first | exact op_add (by rfl) (by rfl) (wrap_i64 ⟨by omega, by omega⟩) | exact op_add (by rfl) (by rfl) (by rfl)) rfl (by dsimp only [zS, zN, zH, zT]) ?_
  refine zst (op_move_tmp (by rfl)) rfl (by dsimp only [zS, zN, zH, zT]) ?_
  refine al_end rfl ?_
  apply again_to (ps.length - (k + 1)) [false, false, false, true, false, false, true, true, true, false, false, false, false, false, false, false, false, false]
  · (try dsimp only [maskT]); try exact rfl
  · rfl
  · omega
  exact ⟨k + 1, _, rfl, by omega, rfl, Bytes.grown' hHeir hOk (by simp [take_snoc hcc, keyL]) (by simp [keyL])⟩
 ·
  (try simp only [y1, y2, y3, y4, y5, y6, y7, y8, y9, y0, List.length_map] at hc1)
  (try simp only [List.length_map] at hc1)
  have hke : k = ps.length := by omega
  subst hke
  simp only [List.take_length] at hApp hOk
  refine aw_exit ?_
  refine then_exit (again_exit (inBlock_here (then_normal ?_)))
  refine aw_seq ?_
  refine aw_region ?_
  refine zst (op_move_tmp (by rfl)) rfl (by dsimp only [zS, zN, zH, zT]) ?_
  refine zst (op_string Try.underlying49 Try.underlying9 Try.underlying5 hApp.ll (by rfl)) rfl (by dsimp only [zS, zN, zH, zT]) ?_
  refine zst (op_assign_tmp (by rfl)) rfl (by dsimp only [zS, zN, zH, zT]) ?_
  refine al_end rfl ?_
  refine then_normal ?_
  refine aw_ret ?_
  refine retPost1 rfl rfl ?_
  exact ⟨rfl, hHeir.ext⟩
end Go.Proofs.Ytjbpfnoibeogbaa
namespace Go.Proofs.Ytjbpfnoibeogbaa
open Go.AV
set_option linter.unusedVariables false
set_option linter.unusedSimpArgs false
set_option maxRecDepth 100000 in
theorem copyCheck_new (H : HS) (id : Nat) (v : AV) (hb : H.blks[id]? = some ⟨173, [.d (.v (.pointer none)), v], false⟩) : ACalls Try.prog 117 [.ptr id 0] H (Ret (.tup []) (H.put id 0 [.ptr id 0])) := by
 obtain ⟨j, hj, hjs⟩ := Option.map_eq_some_iff.1 Sz173
 refine acalls_of_aw Try.func117 rfl ?_
 refine aw_start (T' := [.ptr id 0, .un, .un, .un, .un, .un, .un, .un, .un, .un, .un, .un, .un, .un, .un, .un, .un, .un, .un, .un]) rfl ?_
 refine aw_seq ?_
 refine aw_region ?_
 refine zst (op_move_tmp (by rfl)) rfl (by dsimp only [zS, zN, zH, zT]) ?_
 refine zst (by first | exact op_nilCheck_ptr (by rfl) | exact op_nilCheck_elt (by rfl)) rfl (by dsimp only [zS, zN, zH, zT]) ?_
 refine zst (by first | exact op_fieldAddr_ptr Try.underlying173 rfl Sz171 (by rfl) (by rfl) | exact op_fieldAddr_elt Try.underlying173 rfl Sz171 (by rfl) (by rfl) (by rfl)) rfl (by dsimp only [zS, zN, zH, zT]) ?_
 refine zst (op_load_ptr Try.underlying171 (by rfl) (by rfl) hb (by rfl)) rfl (by dsimp only [zS, zN, zH, zT]) ?_
 refine zst (op_nil_nil Try.underlying171 (by rfl) (by rfl)) rfl (by dsimp only [zS, zN, zH, zT]) ?_
 refine al_end rfl ?_
 refine then_normal ?_
 refine aw_cond rfl (fun hc1 => ?_) (fun hc1 => ?_)
 ·
  refine aw_region ?_
  refine zst (op_move_tmp (by rfl)) rfl (by dsimp only [zS, zN, zH, zT]) ?_
  refine zst (op_move_tmp (by rfl)) rfl (by dsimp only [zS, zN, zH, zT]) ?_
  refine zst (op_to_unsafe Try.underlying171 Try.underlying242 hj (by rw [hjs]; decide) (by rfl) hb (Nat.le_of_ble_eq_true rfl)) rfl (by dsimp only [zS, zN, zH, zT]) ?_
  refine zst (op_noEscape Try.func152 (by kernel_rfl) (by kernel_rfl) (by kernel_rfl) (by kernel_rfl) (by rfl)) rfl (by dsimp only [zS, zN, zH, zT]) ?_
  refine zst (op_from_unsafe Try.underlying242 Try.underlying171 hj (by rfl) hb (by kernel_rfl)) rfl (by dsimp only [zS, zN, zH, zT]) ?_
  refine zst (by first | exact op_nilCheck_ptr (by rfl) | exact op_nilCheck_elt (by rfl)) rfl (by dsimp only [zS, zN, zH, zT]) ?_
  refine zst (by first | exact op_fieldAddr_ptr Try.underlying173 rfl Sz171 (by rfl) (by rfl) | exact op_fieldAddr_elt Try.underlying173 rfl Sz171 (by rfl) (by rfl) (by rfl)) rfl (by dsimp only [zS, zN, zH, zT]) ?_
  refine zst (op_store Sz171 (by rfl) hb (by intro h; cases h) (show AV.cells _ = [AV.ptr id 0] from rfl) (by rfl) (Nat.le_of_ble_eq_true rfl) (by simp [AV.one, DV.one])) rfl (by dsimp only [zS, zN, zH, zT]) ?_
  refine al_end rfl ?_
  refine retPost0 (by first | exact .inl rfl | exact .inr rfl) rfl ?_
  exact ⟨rfl, rfl⟩
 ·
  exact absurd hc1 (by simp)
set_option maxRecDepth 100000 in
theorem copyCheck_used (H : HS) (id : Nat) (v : AV) (hb : H.blks[id]? = some ⟨173, [.ptr id 0, v], false⟩) : ACalls Try.prog 117 [.ptr id 0] H (Ret (.tup []) (H.put id 0 [.ptr id 0])) := by
 obtain ⟨j, hj, hjs⟩ := Option.map_eq_some_iff.1 Sz173
 refine acalls_of_aw Try.func117 rfl ?_
 refine aw_start (T' := [.ptr id 0, .un, .un, .un, .un, .un, .un, .un, .un, .un, .un, .un, .un, .un, .un, .un, .un, .un, .un, .un]) rfl ?_
 refine aw_seq ?_
 refine aw_region ?_
 refine zst (op_move_tmp (by rfl)) rfl (by dsimp only [zS, zN, zH, zT]) ?_
 refine zst (by first | exact op_nilCheck_ptr (by rfl) | exact op_nilCheck_elt (by rfl)) rfl (by dsimp only [zS, zN, zH, zT]) ?_
 refine zst (by first | exact op_fieldAddr_ptr Try.underlying173 rfl Sz171 (by rfl) (by rfl) | exact op_fieldAddr_elt Try.underlying173 rfl Sz171 (by rfl) (by rfl) (by rfl)) rfl (by dsimp only [zS, zN, zH, zT]) ?_
 refine zst (op_load_ptr Try.underlying171 (by rfl) (by rfl) hb (by rfl)) rfl (by dsimp only [zS, zN, zH, zT]) ?_
 refine zst (op_ptr_nil Try.underlying171 (by rfl) (by rfl)) rfl (by dsimp only [zS, zN, zH, zT]) ?_
 refine al_end rfl ?_
 refine then_normal ?_
 refine aw_cond rfl (fun hc1 => ?_) (fun hc1 => ?_)
 ·
  exact absurd hc1 (by simp)
 ·
  refine aw_seq ?_
  refine aw_region ?_
  refine zst (op_move_tmp (by rfl)) rfl (by dsimp only [zS, zN, zH, zT]) ?_
  refine zst (by first | exact op_nilCheck_ptr (by rfl) | exact op_nilCheck_elt (by rfl)) rfl (by dsimp only [zS, zN, zH, zT]) ?_
  refine zst (by first | exact op_fieldAddr_ptr Try.underlying173 rfl Sz171 (by rfl) (by rfl) | exact op_fieldAddr_elt Try.underlying173 rfl Sz171 (by rfl) (by rfl) (by rfl)) rfl (by dsimp only [zS, zN, zH, zT]) ?_
  refine zst (op_load_ptr Try.underlying171 (by rfl) (by rfl) hb (by rfl)) rfl (by dsimp only [zS, zN, zH, zT]) ?_
  refine zst (op_move_tmp (by rfl)) rfl (by dsimp only [zS, zN, zH, zT]) ?_
  refine zst (op_ne_self Try.underlying171 hj (by rfl) (by rfl)) rfl (by dsimp only [zS, zN, zH, zT]) ?_
  refine al_end rfl ?_
  refine then_normal ?_
  refine aw_cond rfl (fun hc2 => ?_) (fun hc2 => ?_)
  ·
   exact absurd hc2 (by simp)
  ·
   refine aw_skip ?_
   refine retPost0 (by first | exact .inl rfl | exact .inr rfl) rfl ?_
   exact ⟨rfl, (put_self hb).symm⟩
theorem copyCheck_ok (H : HS) (id : Nat) (p v : AV) (hb : H.blks[id]? = some ⟨173, [p, v], false⟩) (hp : p = .d (.v (.pointer none)) ∨ p = .ptr id 0) : ACalls Try.prog 117 [.ptr id 0] H (Ret (.tup []) (H.put id 0 [.ptr id 0])) := by
  rcases hp with rfl | rfl
  · exact copyCheck_new H id v hb
  · exact copyCheck_used H id v hb
set_option maxRecDepth 100000 in
theorem writeByte_ok (Hs H : HS) (l : List UInt8) (c : UInt8) (hB : Bld Hs 173 5 H l) (hn : l.length + 1 ≤ 140737488355328) : ACalls Try.prog 87 [.ptr Hs.nb 0, .d (BY c)] H (fun av H' => av = .d (.v .nilIface) ∧ Bld Hs 173 5 H' (l ++ [c])) := by
 obtain ⟨hx, p, v, hb, hv, hp, hlt⟩ := hB
 have hnb : Hs.nb < H.nb := (List.getElem?_eq_some_iff.1 hb).1
 have hb1 : (H.put Hs.nb 0 [.ptr Hs.nb 0]).blks[Hs.nb]? = some ⟨173, [.ptr Hs.nb 0, v], false⟩ := by rw [put_blks_at hb]; rfl
 have hv : BV (H.put Hs.nb 0 [.ptr Hs.nb 0]) 5 v l := hv.kept fun id n cap e => put_blks_ne (by have := hlt _ _ _ e; omega)
 refine acalls_of_aw Try.func87 rfl ?_
 refine aw_start (T' := [.ptr Hs.nb 0, .d (BY c), .un, .un, .un, .un, .un, .un, .un, .un, .un, .un, .un, .un, .un, .un, .un]) rfl ?_
 refine aw_seq ?_
 refine aw_region ?_
 refine zst (op_assign_const (by rfl)) rfl (by dsimp only [zS, zN, zH, zT]) ?_
 refine al_end rfl ?_
 refine then_normal ?_
 refine aw_seq ?_
 refine aw_region ?_
 refine zst (op_move_tmp (by rfl)) rfl (by dsimp only [zS, zN, zH, zT]) ?_
 refine zst (op_callF Try.func117 (by rfl) (by rfl) (.tmp (by rfl) .nil) (copyCheck_ok H Hs.nb p v hb hp)) rfl (by dsimp only [zS, zN, zH, zT]) ?_
 refine al_end rfl ?_
 refine then_normal ?_
 refine aw_seq ?_
 refine aw_region ?_
 refine zst (op_move_tmp (by rfl)) rfl (by dsimp only [zS, zN, zH, zT]) ?_
 refine zst (op_move_tmp (by rfl)) rfl (by dsimp only [zS, zN, zH, zT]) ?_
 refine zst (by first | exact op_nilCheck_ptr (by rfl) | exact op_nilCheck_elt (by rfl)) rfl (by dsimp only [zS, zN, zH, zT]) ?_
 refine zst (by first | exact op_fieldAddr_ptr Try.underlying173 rfl Sz49 (by rfl) (by rfl) | exact op_fieldAddr_elt Try.underlying173 rfl Sz49 (by rfl) (by rfl) (by rfl)) rfl (by dsimp only [zS, zN, zH, zT]) ?_
 refine zst (op_load_ptr Try.underlying49 (by rfl) (by rfl) hb1 (by rfl)) rfl (by dsimp only [zS, zN, zH, zT]) ?_
 refine zst (op_move_tmp (by rfl)) rfl (by dsimp only [zS, zN, zH, zT]) ?_
 refine zst (op_lit Try.underlying49 ZS5 (.cons (by rfl) (.nil _)) (by rfl) (by simp [BY, S, I, TF, DV.cells]) (by simp [flat, BY, S, I, TF, DV.cells, DV.one]) (by decide)) rfl (by dsimp only [zS, zN, zH, zT]) ?_
 refine al_cons _ (op_append_arr Try.underlying49 Inf5 (by rfl) hv.arrs (.list _ _ _ _ Try.underlying49 (LL.own _ _ _)) (by simp) (by simp; omega) (by simp; omega)) rfl ?_
 rintro v2 H2 ⟨hA, hK, id2, m2, cap2, rfl, he1, he2⟩
 apply al_normT
 · (try dsimp only [putT, List.set_cons_zero, List.set_cons_succ]); try exact rfl
 have hA' : Arr H2 5 1 (.arr id2 m2 cap2) (l.length + 1) (l.map (fun c => AV.d (BY c)) ++ [.d (BY c)]) := hA
 have hK' : Kept (H.put Hs.nb 0 [.ptr Hs.nb 0]) H2 v := hK
 have hid : Hs.nb < id2 := by
      cases hv with
      | nil => have h := he1 rfl; rw [put_nb] at h; omega
      | arr id cap cs l hb' hc hl h0 hn' =>
        rcases he2 _ _ _ rfl with h | h
        · rw [h]; exact hlt _ _ _ rfl
        · rw [put_nb] at h; omega
 have hb2 : H2.blks[Hs.nb]? = some ⟨173, [.ptr Hs.nb 0, v], false⟩ := by rw [hK'.blks Hs.nb (by rw [put_nb]; exact hnb) (fun n cap e => by have := hlt _ _ _ e; omega)]; exact hb1
 refine zst (by first | exact op_nilCheck_ptr (by rfl) | exact op_nilCheck_elt (by rfl)) rfl (by dsimp only [zS, zN, zH, zT]) ?_
 refine zst (by first | exact op_fieldAddr_ptr Try.underlying173 rfl Sz49 (by rfl) (by rfl) | exact op_fieldAddr_elt Try.underlying173 rfl Sz49 (by rfl) (by rfl) (by rfl)) rfl (by dsimp only [zS, zN, zH, zT]) ?_
 refine zst (op_store Sz49 (by rfl) hb2 (by intro h; cases h) (show AV.cells _ = [AV.arr id2 m2 cap2] from rfl) (by rfl) (Nat.le_of_ble_eq_true rfl) (by simp [AV.one, DV.one])) rfl (by dsimp only [zS, zN, zH, zT]) ?_
 refine al_end rfl ?_
 refine then_normal ?_
 refine aw_seq ?_
 refine aw_region ?_
 refine zst (op_assign_const (by rfl)) rfl (by dsimp only [zS, zN, zH, zT]) ?_
 refine al_end rfl ?_
 refine then_normal ?_
 refine aw_ret ?_
 refine retPost1 rfl rfl ?_
 exact ⟨rfl, Bld.step hx hb hlt hK' hA' ⟨_, _, _, rfl, hid⟩⟩
set_option maxRecDepth 100000 in
theorem bstring_ok (H : HS) (id : Nat) (p v : AV) (l : List UInt8) (hb : H.blks[id]? = some ⟨173, [p, v], false⟩) (hv : BV H 5 v l) (hn : l.length ≤ 9223372036854775807) : ACalls Try.prog 88 [.ptr id 0] H (Ret (.d (S l)) (frzV H v)) := by
 refine acalls_of_aw Try.func88 rfl ?_
 refine aw_start (T' := [.ptr id 0, .un, .un, .un, .un, .un, .un, .un, .un, .un, .un, .un, .un, .un]) rfl ?_
 refine aw_seq ?_
 refine aw_region ?_
 refine zst (op_assign_const (by rfl)) rfl (by dsimp only [zS, zN, zH, zT]) ?_
 refine al_end rfl ?_
 refine then_normal ?_
 refine aw_seq ?_
 refine aw_draw [0, 0, 0, 1, 0, 0, 0, 0, 1, 0, 2, 0] mixed (by kernel_rfl) ?_
 refine zd0 (fun H => (op_move_tmp (by rfl))) rfl (by dsimp only [zS, zN, zH, zT]) ?_
 refine zd0 (fun H => (by first | exact op_nilCheck_ptr (by rfl) | exact op_nilCheck_elt (by rfl))) rfl (by dsimp only [zS, zN, zH, zT]) ?_
 refine zd0 (fun H => (by first | exact op_fieldAddr_ptr Try.underlying173 rfl Sz49 (by rfl) (by rfl) | exact op_fieldAddr_elt Try.underlying173 rfl Sz49 (by rfl) (by rfl) (by rfl))) rfl (by dsimp only [zS, zN, zH, zT]) ?_
 refine zd1 (op_load_ptr Try.underlying49 (by rfl) (by rfl) hb (by rfl)) rfl (by dsimp only [zS, zN, zH, zT]) ?_
 refine zd0 (fun H => (op_sliceData_bv (by rfl) hv)) rfl (by dsimp only [zS, zN, zH, zT]) ?_
 refine zd0 (fun H => (op_move_tmp (by rfl))) rfl (by dsimp only [zS, zN, zH, zT]) ?_
 refine zd0 (fun H => (by first | exact op_nilCheck_ptr (by rfl) | exact op_nilCheck_elt (by rfl))) rfl (by dsimp only [zS, zN, zH, zT]) ?_
 refine zd0 (fun H => (by first | exact op_fieldAddr_ptr Try.underlying173 rfl Sz49 (by rfl) (by rfl) | exact op_fieldAddr_elt Try.underlying173 rfl Sz49 (by rfl) (by rfl) (by rfl))) rfl (by dsimp only [zS, zN, zH, zT]) ?_
 refine zd1 (op_load_ptr Try.underlying49 (by rfl) (by rfl) hb (by rfl)) rfl (by dsimp only [zS, zN, zH, zT]) ?_
 refine zd0 (fun H => (op_len_bv Try.underlying49 (by rfl) hv)) rfl (by dsimp only [zS, zN, zH, zT]) ?_
 refine zd2 (op_unsafeString_bv (Try.underlying212) (by kernel_rfl) (by rfl) (by rfl) hv hn) rfl (by dsimp only [zS, zN, zH, zT]) ?_
 refine zd0 (fun H => (op_assign_tmp (by rfl))) rfl (by dsimp only [zS, zN, zH, zT]) ?_
 refine drun_end rfl ?_
 refine then_normal ?_
 refine aw_ret ?_
 refine retPost1 rfl rfl ?_
 exact ⟨rfl, rfl⟩
end Go.Proofs.Ytjbpfnoibeogbaa
namespace Go.Proofs.Ytjbpfnoibeogbaa
open Go.AV Go.AV.Ord
set_option linter.unusedVariables false
set_option linter.unusedSimpArgs false
set_option maxRecDepth 100000 in
theorem cut_ok (Hs : HS) (k : List UInt8) (hk : k.length ≤ 140737488355328) : ACalls Try.prog 53 [.d (S k)] Hs (Ret (.tup [.d (S (cut1 k)), .d (S (cut2 k)), .d (TF (cutB k))]) Hs) := by
 refine ACalls.tidyT (xs := [S (cut1 k), S (cut2 k), TF (cutB k)]) ?_
 refine acalls_of_aw Try.func53 rfl ?_
 refine aw_start (T' := [.d (S k), .un, .un, .un, .un, .un, .un, .un, .un, .un, .un, .un, .un, .un, .un, .un, .un, .un, .un, .un, .un, .un, .un, .un, .un, .un, .un, .un, .un, .un, .un, .un, .un, .un, .un, .un, .un]) rfl ?_
 refine aw_seq ?_
 refine aw_region ?_
 refine zst (op_assign_const (by rfl)) rfl (by dsimp only [zS, zN, zH, zT]) ?_
 refine zst (op_assign_const (by rfl)) rfl (by dsimp only [zS, zN, zH, zT]) ?_
 refine zst (op_assign_const (by rfl)) rfl (by dsimp only [zS, zN, zH, zT]) ?_
 refine al_end rfl ?_
 refine then_normal ?_
 refine aw_seq ?_
 refine aw_region ?_
 refine zst (op_alloc (Zr173) (by rfl)) rfl (by dsimp only [zS, zN, zH, zT]) ?_
 refine al_end rfl ?_
 refine then_normal ?_
 refine aw_seq ?_
 refine aw_seq ?_
 refine aw_region ?_
 refine zst (op_assign_const (by rfl)) rfl (by dsimp only [zS, zN, zH, zT]) ?_
 refine al_end rfl ?_
 refine then_normal ?_
 refine aw_block ?_
 apply aw_loopF (fun n T H => ∃ (i : Nat) (o : List UInt8), T = [.d (S k), .un, .un, .un, .un, .ptr Hs.nb 0, .d (I i), .un, .un, .un, .un, .un, .un, .un, .un, .un, .un, .un, .un, .un, .un, .un, .un, .un, .un, .un, .un, .un, .un, .un, .un, .un, .un, .un, .un, .un, .un] ∧ i ≤ k.length ∧ n = k.length - i ∧ Bld Hs 173 5 H o ∧ cutO o (k.drop i) = cutL k ∧ o.length ≤ i) (k.length) [true, false, false, false, false, true, true, false, false, false, false, false, false, false, false, false, false, false, false, false, false, false, false, false, false, false, false, false, false, false, false, false, false, false, false, false, false]
 · (try dsimp only [maskT]); try exact rfl
 · rfl
 · exact ⟨0, [], rfl, by omega, rfl, Bld.new Hs 173 5, cutO_nil k, by simp⟩
 rintro n T H ⟨i, o, rfl, hi, rfl, hB, hcut, hol⟩
 refine aw_seq ?_
 refine aw_seq ?_
 refine aw_region ?_
 refine zst (op_move_tmp (by rfl)) rfl (by dsimp only [zS, zN, zH, zT]) ?_
 refine zst (by first | exact op_add (by rfl) (by rfl) (wrap_i64 ⟨by omega, by omega⟩) | exact op_add (by rfl) (by rfl) (by rfl)) rfl (by dsimp only [zS, zN, zH, zT]) ?_
 refine zst (op_move_tmp (by rfl)) rfl (by dsimp only [zS, zN, zH, zT]) ?_
 refine zst (op_lenS Try.underlying9 (by rfl)) rfl (by dsimp only [zS, zN, zH, zT]) ?_
 refine zst (op_ltI (by rfl) (by rfl)) rfl (by dsimp only [zS, zN, zH, zT]) ?_
 refine al_end rfl ?_
 refine then_normal ?_
 refine aw_cond rfl (fun hc1 => ?_) (fun hc1 => ?_)
 ·
  (try simp only [y1, y2, y3, y4, y5, y6, y7, y8, y9, y0, List.length_map] at hc1)
  have hlt : i + 1 < k.length := by omega
  obtain ⟨c, hc⟩ : ∃ c, k[i]? = some c := ⟨_, List.getElem?_eq_getElem (by omega)⟩
  obtain ⟨d, hd⟩ : ∃ c, k[i + 1]? = some c := ⟨_, List.getElem?_eq_getElem (by omega)⟩
  refine aw_skip ?_
  refine then_normal ?_
  refine aw_seq ?_
  refine aw_block ?_
  refine aw_seq ?_
  refine aw_seq ?_
  refine aw_region ?_
  refine zst (op_move_tmp (by rfl)) rfl (by dsimp only [zS, zN, zH, zT]) ?_
  refine zst (op_move_tmp (by rfl)) rfl (by dsimp only [zS, zN, zH, zT]) ?_
  refine zst (op_indexS Try.underlying9 (by rfl) (by rfl) (by omega) (show k[((i : Nat) : Int).toNat]? = some c by simpa using hc)) rfl (by dsimp only [zS, zN, zH, zT]) ?_
  refine zst (op_neI (by rfl) (by rfl)) rfl (by dsimp only [zS, zN, zH, zT]) ?_
  refine al_end rfl ?_
  refine then_normal ?_
  refine aw_cond rfl (fun hc2 => ?_) (fun hc2 => ?_)
  ·
   (try simp only [y1, y2, y3, y4, y5, y6, y7, y8, y9, y0, List.length_map] at hc2)
   have hcz : c ≠ 0 := by intro h; subst h; exact hc2 rfl
   refine aw_seq ?_
   refine aw_region ?_
   refine zst (op_move_tmp (by rfl)) rfl (by dsimp only [zS, zN, zH, zT]) ?_
   refine zst (op_move_tmp (by rfl)) rfl (by dsimp only [zS, zN, zH, zT]) ?_
   refine zst (op_indexS Try.underlying9 (by rfl) (by rfl) (by omega) (show k[((i : Nat) : Int).toNat]? = some c by simpa using hc)) rfl (by dsimp only [zS, zN, zH, zT]) ?_
   refine al_cons _ (op_callF Try.func87 (by rfl) (by rfl) (.tmp (by rfl) (.tmp (by rfl) .nil)) (writeByte_ok Hs H o c hB (by omega))) rfl ?_
   rintro v2 H2 ⟨rfl, hB2⟩
   apply al_normT
   · (try dsimp only [putT, List.set_cons_zero, List.set_cons_succ]); try exact rfl
   refine al_end rfl ?_
   refine then_normal ?_
   refine aw_exit ?_
   refine then_exit (inBlock_here (then_normal ?_))
   refine aw_region ?_
   refine zst (op_move_tmp (by rfl)) rfl (by dsimp only [zS, zN, zH, zT]) ?_
   refine zst (by first | exact op_add (by rfl) (by rfl) (wrap_i64 ⟨by omega, by omega⟩) | exact op_add (by rfl) (by rfl) (by rfl)) rfl (by dsimp only [zS, zN, zH, zT]) ?_
   refine zst (op_assign_tmp (by rfl)) rfl (by dsimp only [zS, zN, zH, zT]) ?_
   refine al_end rfl ?_
   apply again_to (k.length - (i + 1)) [true, false, false, false, false, true, true, false, false, false, false, false, false, false, false, false, false, false, false, false, false, false, false, false, false, false, false, false, false, false, false, false, false, false, false, false, false]
   · (try dsimp only [maskT]); try exact rfl
   · rfl
   · omega
   exact ⟨i + 1, o ++ [c], rfl, by omega, rfl, hB2, by rw [← hcut, drop_one hc, cutO_step hcz], by simp; omega⟩
  ·
   (try simp only [y1, y2, y3, y4, y5, y6, y7, y8, y9, y0, List.length_map] at hc2)
   obtain rfl : c = 0 := by apply UInt8.toNat_inj.1; show c.toNat = 0; omega
   refine aw_skip ?_
   refine then_normal ?_
   refine aw_seq ?_
   refine aw_region ?_
   refine zst (op_move_tmp (by rfl)) rfl (by dsimp only [zS, zN, zH, zT]) ?_
   refine zst (by first | exact op_add (by rfl) (by rfl) (wrap_i64 ⟨by omega, by omega⟩) | exact op_add (by rfl) (by rfl) (by rfl)) rfl (by dsimp only [zS, zN, zH, zT]) ?_
   refine zst (op_assign_tmp (by rfl)) rfl (by dsimp only [zS, zN, zH, zT]) ?_
   refine al_end rfl ?_
   refine then_normal ?_
   refine aw_seq ?_
   refine aw_region ?_
   refine zst (op_move_tmp (by rfl)) rfl (by dsimp only [zS, zN, zH, zT]) ?_
   refine zst (op_move_tmp (by rfl)) rfl (by dsimp only [zS, zN, zH, zT]) ?_
   refine zst (op_indexS Try.underlying9 (by rfl) (by rfl) (by omega) (show k[(((i + 1 : Nat)) : Int).toNat]? = some d by simpa using hd)) rfl (by dsimp only [zS, zN, zH, zT]) ?_
   refine al_end rfl ?_
   refine then_normal ?_
   refine aw_block ?_
   refine aw_seq ?_
   refine aw_region ?_
   refine zst (op_eqI (by rfl) (by rfl)) rfl (by dsimp only [zS, zN, zH, zT]) ?_
   refine zst (op_assign_tmp (by rfl)) rfl (by dsimp only [zS, zN, zH, zT]) ?_
   refine al_end rfl ?_
   refine then_normal ?_
   refine aw_cond rfl (fun hc3 => ?_) (fun hc3 => ?_)
   ·
    (try simp only [y1, y2, y3, y4, y5, y6, y7, y8, y9, y0, List.length_map] at hc3)
    obtain rfl : d = 1 := by apply UInt8.toNat_inj.1; show d.toNat = 1; omega
    obtain ⟨hx, p, v, hb, hv, hp, hlt2⟩ := hB
    refine aw_seq ?_
    refine aw_draw [2, 0, 0, 0, 0, 0, 0, 0] mixed (by kernel_rfl) ?_
    refine zd2 (op_callF Try.func88 (by rfl) (by rfl) (.tmp (by rfl) .nil) (bstring_ok H Hs.nb p v o hb hv (by omega))) rfl (by dsimp only [zS, zN, zH, zT]) ?_
    refine zd0 (fun H => (op_move_tmp (by rfl))) rfl (by dsimp only [zS, zN, zH, zT]) ?_
    refine zd0 (fun H => (op_move_tmp (by rfl))) rfl (by dsimp only [zS, zN, zH, zT]) ?_
    refine zd0 (fun H => (by first | exact op_add (by rfl) (by rfl) (wrap_i64 ⟨by omega, by omega⟩) | exact op_add (by rfl) (by rfl) (by rfl))) rfl (by dsimp only [zS, zN, zH, zT]) ?_
    refine zd0 (fun H => (op_sliceS1 (k.drop (i + 2)) Try.underlying9 (by rfl) (by rfl) (by omega) (by omega) (by rw [show (((i : Nat) : Int) + 1 + 1).toNat = i + 2 by omega]))) rfl (by dsimp only [zS, zN, zH, zT]) ?_
    refine zd0 (fun H => (op_assign_tmp (by rfl))) rfl (by dsimp only [zS, zN, zH, zT]) ?_
    refine zd0 (fun H => (op_assign_tmp (by rfl))) rfl (by dsimp only [zS, zN, zH, zT]) ?_
    refine zd0 (fun H => (op_assign_const (by rfl))) rfl (by dsimp only [zS, zN, zH, zT]) ?_
    refine drun_end rfl ?_
    refine then_normal ?_
    refine aw_ret ?_
    refine inBlock_ret (inBlock_ret (then_ret (again_ret (inBlock_ret (then_ret ?_)))))
    refine retPost3 rfl rfl rfl rfl ?_
    have hs : cutL k = some (o, k.drop (i + 2)) := by rw [← hcut, drop_two hc hd]; exact cutO_end
    exact ⟨by simp only [cut1, cut2, cutB, hs]; rfl, frzV_ext hx hlt2⟩
   ·
    (try simp only [y1, y2, y3, y4, y5, y6, y7, y8, y9, y0, List.length_map] at hc3)
    have hd1 : d ≠ 1 := by intro h; subst h; exact hc3 rfl
    refine aw_seq ?_
    refine aw_region ?_
    refine zst (op_eqI (by rfl) (by rfl)) rfl (by dsimp only [zS, zN, zH, zT]) ?_
    refine zst (op_assign_tmp (by rfl)) rfl (by dsimp only [zS, zN, zH, zT]) ?_
    refine al_end rfl ?_
    refine then_normal ?_
    refine aw_cond rfl (fun hc4 => ?_) (fun hc4 => ?_)
    ·
     (try simp only [y1, y2, y3, y4, y5, y6, y7, y8, y9, y0, List.length_map] at hc4)
     obtain rfl : d = 255 := by apply UInt8.toNat_inj.1; show d.toNat = 255; omega
     refine aw_region ?_
     refine al_cons _ (op_callF Try.func87 (by rfl) (by rfl) (.tmp (by rfl) (.const (by rfl) .nil)) (writeByte_ok Hs H o 0 hB (by omega))) rfl ?_
     rintro v2 H2 ⟨rfl, hB2⟩
     apply al_normT
     · (try dsimp only [putT, List.set_cons_zero, List.set_cons_succ]); try exact rfl
     refine al_end rfl ?_
     refine inBlock_normal (inBlock_normal (then_normal ?_))
     refine aw_region ?_
     refine zst (op_move_tmp (by rfl)) rfl (by dsimp only [zS, zN, zH, zT]) ?_
     refine zst (by first | exact op_add (by rfl) (by rfl) (wrap_i64 ⟨by omega, by omega⟩) | exact op_add (by rfl) (by rfl) (by rfl)) rfl (by dsimp only [zS, zN, zH, zT]) ?_
     refine zst (op_assign_tmp (by rfl)) rfl (by dsimp only [zS, zN, zH, zT]) ?_
     refine al_end rfl ?_
     apply again_to (k.length - (i + 2)) [true, false, false, false, false, true, true, false, false, false, false, false, false, false, false, false, false, false, false, false, false, false, false, false, false, false, false, false, false, false, false, false, false, false, false, false, false]
     · (try dsimp only [maskT]); try exact rfl
     · rfl
     · omega
     exact ⟨i + 2, o ++ [0], rfl, by omega, rfl, hB2, by rw [← hcut, drop_two hc hd, cutO_zero], by simp; omega⟩
    ·
     (try simp only [y1, y2, y3, y4, y5, y6, y7, y8, y9, y0, List.length_map] at hc4)
     have hd2 : d ≠ 255 := by intro h; subst h; exact hc4 rfl
     refine aw_seq ?_
     refine aw_region ?_
     refine zst (op_assign_const (by rfl)) rfl (by dsimp only [zS, zN, zH, zT]) ?_
     refine zst (op_assign_const (by rfl)) rfl (by dsimp only [zS, zN, zH, zT]) ?_
     refine zst (op_assign_const (by rfl)) rfl (by dsimp only [zS, zN, zH, zT]) ?_
     refine al_end rfl ?_
     refine then_normal ?_
     refine aw_ret ?_
     refine inBlock_ret (inBlock_ret (then_ret (again_ret (inBlock_ret (then_ret ?_)))))
     refine retPost3 rfl rfl rfl rfl ?_
     have hs : cutL k = none := by rw [← hcut, drop_two hc hd]; exact cutO_bad hd1 hd2
     exact ⟨by simp only [cut1, cut2, cutB, hs]; rfl, hB.ext⟩
 ·
  (try simp only [y1, y2, y3, y4, y5, y6, y7, y8, y9, y0, List.length_map] at hc1)
  have hnone : cutL k = none := by rw [← hcut]; exact cutO_short (by simp; omega)
  refine aw_exit ?_
  refine then_exit (again_exit (inBlock_here (then_normal ?_)))
  refine aw_seq ?_
  refine aw_region ?_
  refine zst (op_assign_const (by rfl)) rfl (by dsimp only [zS, zN, zH, zT]) ?_
  refine zst (op_assign_const (by rfl)) rfl (by dsimp only [zS, zN, zH, zT]) ?_
  refine zst (op_assign_const (by rfl)) rfl (by dsimp only [zS, zN, zH, zT]) ?_
  refine al_end rfl ?_
  refine then_normal ?_
  refine aw_ret ?_
  refine retPost3 rfl rfl rfl rfl ?_
  exact ⟨by simp only [cut1, cut2, cutB, hnone]; rfl, hB.ext⟩
set_option maxRecDepth 100000 in
theorem parts_ok (Hs : HS) (k : List UInt8) (hk : k.length ≤ 1099511627776) : ACalls Try.prog 19 [.d (S k)] Hs (Ret (.tup [.d (.lst 1 ((partsA k).map S)), .d (I (partsE k))]) Hs) := by
 refine ACalls.tidyT (xs := [.lst 1 ((partsA k).map S), I (partsE k)]) ?_
 suffices h : ACalls Try.prog 19 [.d (S k)] Hs (fun av H' => ∃ v, av = .tup [v, .d (I (partsE k))] ∧ Weak v (.d (.lst 1 ((partsA k).map S))) ∧ Ext Hs H') from h.weak fun v H' ⟨v', h1, h2, h3⟩ => ⟨_, by rw [h1]; exact Weak.tup (.cons h2 (.cons (Weak.refl _) .nil)), rfl, h3⟩
 refine acalls_of_aw Try.func19 rfl ?_
 refine aw_start (T' := [.d (S k), .un, .un, .un, .un, .un, .un, .un, .un, .un, .un, .un, .un, .un, .un, .un, .un, .un, .un, .un, .un, .un, .un, .un]) rfl ?_
 refine aw_seq ?_
 refine aw_region ?_
 refine zst (op_assign_const (by rfl)) rfl (by dsimp only [zS, zN, zH, zT]) ?_
 refine zst (op_assign_const (by rfl)) rfl (by dsimp only [zS, zN, zH, zT]) ?_
 refine al_end rfl ?_
 refine then_normal ?_
 refine aw_seq ?_
 refine aw_region ?_
 refine zst (op_assign_const (by rfl)) rfl (by dsimp only [zS, zN, zH, zT]) ?_
 refine al_end rfl ?_
 refine then_normal ?_
 refine aw_seq ?_
 refine aw_block ?_
 apply aw_loopF (fun n T H => ∃ (k' : List UInt8) (o : List (List UInt8)) (v : AV), T = [.d (S k'), .un, .un, .un, v, .un, .un, .un, .un, .un, .un, .un, .un, .un, .un, .un, .un, .un, .un, .un, .un, .un, .un, .un] ∧ n = k'.length ∧ Grows Hs none v H 1 (o.map S) ∧ partsO o k' = partsL k ∧ 2 * o.length + k'.length ≤ k.length) (k.length) [true, false, false, false, true, false, false, false, false, false, false, false, false, false, false, false, false, false, false, false, false, false, false, false]
 · (try dsimp only [maskT]); try exact rfl
 · rfl
 · exact ⟨k, [], _, rfl, rfl, Grows.own (App.nil _) (HS.ok_none _ _), partsO_nil k, by simp⟩
 rintro n T H ⟨k', o, v, rfl, rfl, hG, hps, hle⟩
 obtain ⟨t, hv, hh, hok⟩ := hG.ex
 refine aw_seq ?_
 refine aw_seq ?_
 refine aw_region ?_
 refine zst (op_move_tmp (by rfl)) rfl (by dsimp only [zS, zN, zH, zT]) ?_
 refine zst (op_neS (by rfl) (by rfl)) rfl (by dsimp only [zS, zN, zH, zT]) ?_
 refine al_end rfl ?_
 refine then_normal ?_
 refine aw_cond rfl (fun hc1 => ?_) (fun hc1 => ?_)
 ·
  (try simp only [y1, y2, y3, y4, y5, y6, y7, y8, y9, y0, List.length_map] at hc1)
  have hne : k' ≠ [] := hc1
  refine aw_skip ?_
  refine then_normal ?_
  refine aw_block ?_
  refine aw_seq ?_
  refine aw_region ?_
  refine zst (op_move_tmp (by rfl)) rfl (by dsimp only [zS, zN, zH, zT]) ?_
  refine zst (op_callF Try.func53 (by rfl) (by rfl) (.tmp (by rfl) .nil) (cut_ok _ k' (by omega))) rfl (by dsimp only [zS, zN, zH, zT]) ?_
  refine zst (op_move_tmp (by rfl)) rfl (by dsimp only [zS, zN, zH, zT]) ?_
  refine zst (op_extract (by rfl) (by rfl)) rfl (by dsimp only [zS, zN, zH, zT]) ?_
  refine zst (op_extract (by rfl) (by rfl)) rfl (by dsimp only [zS, zN, zH, zT]) ?_
  refine zst (op_extract (by rfl) (by rfl)) rfl (by dsimp only [zS, zN, zH, zT]) ?_
  refine zst (op_assign_tmp (by rfl)) rfl (by dsimp only [zS, zN, zH, zT]) ?_
  refine zst (op_assign_tmp (by rfl)) rfl (by dsimp only [zS, zN, zH, zT]) ?_
  refine zst (op_assign_tmp (by rfl)) rfl (by dsimp only [zS, zN, zH, zT]) ?_
  refine al_end rfl ?_
  refine then_normal ?_
  refine aw_seq ?_
  refine aw_seq ?_
  refine aw_region ?_
  refine zst (op_move_tmp (by rfl)) rfl (by dsimp only [zS, zN, zH, zT]) ?_
  refine zst (op_not (by rfl)) rfl (by dsimp only [zS, zN, zH, zT]) ?_
  refine al_end rfl ?_
  refine then_normal ?_
  refine aw_cond rfl (fun hc2 => ?_) (fun hc2 => ?_)
  ·
   (try simp only [y1, y2, y3, y4, y5, y6, y7, y8, y9, y0, List.length_map] at hc2)
   have hcn := cut_none hc2
   have hnone : partsL k = none := by rw [← hps]; exact partsO_bad hne hcn
   refine aw_seq ?_
   refine aw_region ?_
   refine zst (op_assign_const (by rfl)) rfl (by dsimp only [zS, zN, zH, zT]) ?_
   refine zst (op_assign_const (by rfl)) rfl (by dsimp only [zS, zN, zH, zT]) ?_
   refine al_end rfl ?_
   refine then_normal ?_
   refine aw_ret ?_
   refine then_ret (inBlock_ret (again_ret (inBlock_ret (then_ret ?_))))
   refine retPost2 rfl rfl rfl ?_
   exact ⟨_, by simp only [partsE, hnone]; rfl, by simp only [partsA, hnone]; exact Weak.nil 1, hh.ext⟩
  ·
   (try simp only [y1, y2, y3, y4, y5, y6, y7, y8, y9, y0, List.length_map] at hc2)
   have hcs := cut_some hc2
   have hlen := cutL_len hcs
   refine aw_skip ?_
   refine then_normal ?_
   refine aw_region ?_
   refine zst (op_move_tmp (by rfl)) rfl (by dsimp only [zS, zN, zH, zT]) ?_
   refine zst (op_move_tmp (by rfl)) rfl (by dsimp only [zS, zN, zH, zT]) ?_
   refine zst (op_lit Try.underlying52 ZS9 (.cons (by rfl) (.nil _)) (by rfl) (by simp [BY, S, I, TF, DV.cells]) (by simp [flat, BY, S, I, TF, DV.cells, DV.one]) (by decide)) rfl (by dsimp only [zS, zN, zH, zT]) ?_
   refine zst (op_append Try.underlying52 Inf9 (by rfl) hv (.list _ _ _ _ Try.underlying52 (LL.own _ _ _)) hok (by simp) (by simp; omega) (by simp; omega)) rfl (by dsimp only [zS, zN, zH, zT]) ?_
   refine zst (op_move_tmp (by rfl)) rfl (by dsimp only [zS, zN, zH, zT]) ?_
   refine zst (op_assign_tmp (by rfl)) rfl (by dsimp only [zS, zN, zH, zT]) ?_
   refine zst (op_assign_tmp (by rfl)) rfl (by dsimp only [zS, zN, zH, zT]) ?_
   refine al_end rfl ?_
   refine inBlock_normal ?_
   apply again_to ((cut2 k').length) [true, false, false, false, true, false, false, false, false, false, false, false, false, false, false, false, false, false, false, false, false, false, false, false]
   · (try dsimp only [maskT]); try exact rfl
   · rfl
   · omega
   exact ⟨cut2 k', o ++ [cut1 k'], _, rfl, rfl, Grows.grown hh hok (by simp) (by simp), by rw [← hps, partsO_step hcs], by simp; omega⟩
 ·
  (try simp only [y1, y2, y3, y4, y5, y6, y7, y8, y9, y0, List.length_map] at hc1)
  have hnil : k' = [] := hc1
  subst hnil
  refine aw_exit ?_
  refine then_exit (again_exit (inBlock_here (then_normal ?_)))
  refine aw_seq ?_
  refine aw_region ?_
  refine zst (op_move_tmp (by rfl)) rfl (by dsimp only [zS, zN, zH, zT]) ?_
  refine zst (op_assign_tmp (by rfl)) rfl (by dsimp only [zS, zN, zH, zT]) ?_
  refine zst (op_assign_const (by rfl)) rfl (by dsimp only [zS, zN, zH, zT]) ?_
  refine al_end rfl ?_
  refine then_normal ?_
  refine aw_ret ?_
  refine retPost2 rfl rfl rfl ?_
  have hs : partsL k = some o := by rw [← hps]; exact partsO_end o
  exact ⟨_, by simp only [partsE, hs]; rfl, by simp only [partsA, hs]; exact Weak.lst hv, hh.ext⟩
end Go.Proofs.Ytjbpfnoibeogbaa
namespace Go.Proofs.Ytjbpfnoibeogbaa
open Go.AV Go.AV.Ord Go.AV.Oct Go.AV.Hist
set_option linter.unusedVariables false
set_option linter.unusedSimpArgs false
set_option maxRecDepth 100000 in
theorem place_ok (Hs : HS) (q id : List UInt8) (hl : q.length + id.length ≤ 1000000000) : ACalls Try.prog 48 [.d (S q), .d (S id)] Hs (Ret (.d (S (keyL [[109], q, id]))) Hs) := by
 refine acalls_of_aw Try.func48 rfl ?_
 refine aw_start (T' := [.d (S q), .d (S id), .un, .un, .un, .un, .un, .un, .un]) rfl ?_
 refine aw_seq ?_
 refine aw_region ?_
 refine zst (op_assign_const (by rfl)) rfl (by dsimp only [zS, zN, zH, zT]) ?_
 refine al_end rfl ?_
 refine then_normal ?_
 refine aw_seq ?_
 refine aw_region ?_
 refine zst (op_move_tmp (by rfl)) rfl (by dsimp only [zS, zN, zH, zT]) ?_
 refine zst (op_move_tmp (by rfl)) rfl (by dsimp only [zS, zN, zH, zT]) ?_
 refine zst (op_lit Try.underlying52 ZS9 (.cons (by rfl) (.cons (by rfl) (.cons (by rfl) (.nil _)))) (by rfl) (by simp [BY, S, I, TF, DV.cells]) (by simp [flat, BY, S, I, TF, DV.cells, DV.one]) (by decide)) rfl (by dsimp only [zS, zN, zH, zT]) ?_
 refine zst (op_callF Try.func51 (by rfl) (by rfl) (.tmp (by rfl) .nil) (key_ok _ _ [[109], q, id] (LL.own _ _ _) (by simp; omega))) rfl (by dsimp only [zS, zN, zH, zT]) ?_
 refine zst (op_assign_tmp (by rfl)) rfl (by dsimp only [zS, zN, zH, zT]) ?_
 refine al_end rfl ?_
 refine then_normal ?_
 refine aw_ret ?_
 refine retPost1 rfl rfl ?_
 exact ⟨rfl, rfl⟩
set_option maxRecDepth 100000 in
theorem msg_ok (Hs : HS) (k : List UInt8) (hk : k.length ≤ 1099511627776) : ACalls Try.prog 84 [.d (S k)] Hs (Ret (.tup [.d (S (msgT k).1), .d (S (msgT k).2.1), .d (TF (msgT k).2.2)]) Hs) := by
 refine acalls_of_aw Try.func84 rfl ?_
 refine aw_start (T' := [.d (S k), .un, .un, .un, .un, .un, .un, .un, .un, .un, .un, .un, .un, .un, .un, .un, .un, .un, .un, .un, .un, .un, .un, .un, .un, .un, .un, .un, .un, .un, .un]) rfl ?_
 refine aw_seq ?_
 refine aw_region ?_
 refine zst (op_assign_const (by rfl)) rfl (by dsimp only [zS, zN, zH, zT]) ?_
 refine zst (op_assign_const (by rfl)) rfl (by dsimp only [zS, zN, zH, zT]) ?_
 refine zst (op_assign_const (by rfl)) rfl (by dsimp only [zS, zN, zH, zT]) ?_
 refine al_end rfl ?_
 refine then_normal ?_
 refine aw_seq ?_
 refine aw_region ?_
 refine zst (op_move_tmp (by rfl)) rfl (by dsimp only [zS, zN, zH, zT]) ?_
 refine zst (op_callF Try.func19 (by rfl) (by rfl) (.tmp (by rfl) .nil) (parts_ok _ k hk)) rfl (by dsimp only [zS, zN, zH, zT]) ?_
 refine zst (op_move_tmp (by rfl)) rfl (by dsimp only [zS, zN, zH, zT]) ?_
 refine zst (op_extract (by rfl) (by rfl)) rfl (by dsimp only [zS, zN, zH, zT]) ?_
 refine zst (op_extract (by rfl) (by rfl)) rfl (by dsimp only [zS, zN, zH, zT]) ?_
 refine zst (op_assign_tmp (by rfl)) rfl (by dsimp only [zS, zN, zH, zT]) ?_
 refine zst (op_assign_tmp (by rfl)) rfl (by dsimp only [zS, zN, zH, zT]) ?_
 refine al_end rfl ?_
 refine then_normal ?_
 refine aw_seq ?_
 refine aw_seq ?_
 refine aw_region ?_
 refine zst (op_move_tmp (by rfl)) rfl (by dsimp only [zS, zN, zH, zT]) ?_
 refine zst (op_neI (by rfl) (by rfl)) rfl (by dsimp only [zS, zN, zH, zT]) ?_
 refine zst (op_move_tmp (by rfl)) rfl (by dsimp only [zS, zN, zH, zT]) ?_
 refine al_split 14 rfl (fun hg1 => ?_) (fun hg1 => ?_)
 ·
  (try simp only [y1, y2, y3, y4, y5, y6, y7, y8, y9, y0, List.length_map] at hg1)
  have he : ¬ partsE k = 0 := hg1
  apply al_normT
  · (try dsimp only [zS, zN, zH, zT]); try exact rfl
  refine zuw rfl rfl rfl rfl (by dsimp only [zS, zN, zH, zT]) ?_
  refine zuw rfl rfl rfl rfl (by dsimp only [zS, zN, zH, zT]) ?_
  refine zuw rfl rfl rfl rfl (by dsimp only [zS, zN, zH, zT]) ?_
  refine zst (op_pick_tt (by rfl) (val_const (by rfl))) rfl (by dsimp only [zS, zN, zH, zT]) ?_
  refine zst (op_move_tmp (by rfl)) rfl (by dsimp only [zS, zN, zH, zT]) ?_
  refine zuw rfl rfl rfl rfl (by dsimp only [zS, zN, zH, zT]) ?_
  refine zuw rfl rfl rfl rfl (by dsimp only [zS, zN, zH, zT]) ?_
  refine zuw rfl rfl rfl rfl (by dsimp only [zS, zN, zH, zT]) ?_
  refine zuw rfl rfl rfl rfl (by dsimp only [zS, zN, zH, zT]) ?_
  refine zst (op_pick_tt (by rfl) (val_const (by rfl))) rfl (by dsimp only [zS, zN, zH, zT]) ?_
  refine al_end rfl ?_
  refine then_normal ?_
  refine aw_cond rfl (fun _ => ?_) (fun h => by cases h)
  refine aw_seq ?_
  refine aw_region ?_
  refine zst (op_assign_const (by rfl)) rfl (by dsimp only [zS, zN, zH, zT]) ?_
  refine zst (op_assign_const (by rfl)) rfl (by dsimp only [zS, zN, zH, zT]) ?_
  refine zst (op_assign_const (by rfl)) rfl (by dsimp only [zS, zN, zH, zT]) ?_
  refine al_end rfl ?_
  refine then_normal ?_
  refine aw_ret ?_
  refine then_ret ?_
  refine retPost3 rfl rfl rfl rfl ?_
  first | exact ⟨by (rw [msg_err he]) <;> rfl, rfl⟩ | exact ⟨by (rw [msg_len hl]) <;> rfl, rfl⟩ | exact ⟨by (rw [msg_no hp hx0]) <;> rfl, rfl⟩ | exact ⟨by (rw [msg_yes he hp]) <;> rfl, rfl⟩
 ·
  (try simp only [y1, y2, y3, y4, y5, y6, y7, y8, y9, y0, List.length_map] at hg1)
  have he : partsE k = 0 := by simpa using hg1
  apply al_normT
  · (try dsimp only [zS, zN, zH, zT]); try exact rfl
  refine zsw rfl rfl rfl (op_move_tmp (by rfl)) (by dsimp only [zS, zN, zH, zT]) ?_
  refine zsw rfl rfl rfl (op_lenL Try.underlying52 (by first | exact LL.d _ _ | exact LL.own _ _ _ | exact LL.nil _ | assumption)) (by dsimp only [zS, zN, zH, zT]) ?_
  refine zsw rfl rfl rfl (op_neI (by rfl) (by rfl)) (by dsimp only [zS, zN, zH, zT]) ?_
  refine zst (op_pick_ff (by rfl) (val_tmp (by rfl))) rfl (by dsimp only [zS, zN, zH, zT]) ?_
  refine zst (op_move_tmp (by rfl)) rfl (by dsimp only [zS, zN, zH, zT]) ?_
  refine al_split 19 rfl (fun hg3 => ?_) (fun hg3 => ?_)
  ·
   (try simp only [y1, y2, y3, y4, y5, y6, y7, y8, y9, y0, List.length_map] at hg3)
   have hl : ¬ (partsA k).length = 3 := by (try simp only [List.length_map] at hg3); omega
   apply al_normT
   · (try dsimp only [zS, zN, zH, zT]); try exact rfl
   refine zuw rfl rfl rfl rfl (by dsimp only [zS, zN, zH, zT]) ?_
   refine zuw rfl rfl rfl rfl (by dsimp only [zS, zN, zH, zT]) ?_
   refine zuw rfl rfl rfl rfl (by dsimp only [zS, zN, zH, zT]) ?_
   refine zuw rfl rfl rfl rfl (by dsimp only [zS, zN, zH, zT]) ?_
   refine zst (op_pick_tt (by rfl) (val_const (by rfl))) rfl (by dsimp only [zS, zN, zH, zT]) ?_
   refine al_end rfl ?_
   refine then_normal ?_
   refine aw_cond rfl (fun _ => ?_) (fun h => by cases h)
   refine aw_seq ?_
   refine aw_region ?_
   refine zst (op_assign_const (by rfl)) rfl (by dsimp only [zS, zN, zH, zT]) ?_
   refine zst (op_assign_const (by rfl)) rfl (by dsimp only [zS, zN, zH, zT]) ?_
   refine zst (op_assign_const (by rfl)) rfl (by dsimp only [zS, zN, zH, zT]) ?_
   refine al_end rfl ?_
   refine then_normal ?_
   refine aw_ret ?_
   refine then_ret ?_
   refine retPost3 rfl rfl rfl rfl ?_
   first | exact ⟨by (rw [msg_err he]) <;> rfl, rfl⟩ | exact ⟨by (rw [msg_len hl]) <;> rfl, rfl⟩ | exact ⟨by (rw [msg_no hp hx0]) <;> rfl, rfl⟩ | exact ⟨by (rw [msg_yes he hp]) <;> rfl, rfl⟩
  ·
   (try simp only [y1, y2, y3, y4, y5, y6, y7, y8, y9, y0, List.length_map] at hg3)
   have hl : (partsA k).length = 3 := by (try simp only [List.length_map] at hg3); omega
   obtain ⟨x0, x1, x2, hp⟩ := len3 hl
   apply al_normT
   · (try dsimp only [zS, zN, zH, zT]); try exact rfl
   refine zsw rfl rfl rfl (op_move_tmp (by rfl)) (by dsimp only [zS, zN, zH, zT]) ?_
   refine zsw rfl rfl rfl (op_indexAddr (z := S x0) (cs := [S x0]) Try.underlying52 Sz9 (LL.d _ _) (by rfl) (by omega) (by rw [hp]; rfl) (by rfl)) (by dsimp only [zS, zN, zH, zT]) ?_
   refine zsw rfl rfl rfl (op_load_elt Try.underlying9 (by rfl) (by rfl) (by rfl)) (by dsimp only [zS, zN, zH, zT]) ?_
   refine zsw rfl rfl rfl (op_neS (by rfl) (by rfl)) (by dsimp only [zS, zN, zH, zT]) ?_
   refine zst (op_pick_ff (by rfl) (val_tmp (by rfl))) rfl (by dsimp only [zS, zN, zH, zT]) ?_
   refine al_end rfl ?_
   refine then_normal ?_
   refine aw_cond rfl (fun hc5 => ?_) (fun hc5 => ?_)
   ·
    (try simp only [y1, y2, y3, y4, y5, y6, y7, y8, y9, y0, List.length_map] at hc5)
    have hx0 : ¬ x0 = [109] := hc5
    refine aw_seq ?_
    refine aw_region ?_
    refine zst (op_assign_const (by rfl)) rfl (by dsimp only [zS, zN, zH, zT]) ?_
    refine zst (op_assign_const (by rfl)) rfl (by dsimp only [zS, zN, zH, zT]) ?_
    refine zst (op_assign_const (by rfl)) rfl (by dsimp only [zS, zN, zH, zT]) ?_
    refine al_end rfl ?_
    refine then_normal ?_
    refine aw_ret ?_
    refine then_ret ?_
    refine retPost3 rfl rfl rfl rfl ?_
    first | exact ⟨by (rw [msg_err he]) <;> rfl, rfl⟩ | exact ⟨by (rw [msg_len hl]) <;> rfl, rfl⟩ | exact ⟨by (rw [msg_no hp hx0]) <;> rfl, rfl⟩ | exact ⟨by (rw [msg_yes he hp]) <;> rfl, rfl⟩
   ·
    (try simp only [y1, y2, y3, y4, y5, y6, y7, y8, y9, y0, List.length_map] at hc5)
    have hx0 : x0 = [109] := by simpa using hc5
    subst hx0
    refine aw_skip ?_
    refine then_normal ?_
    refine aw_seq ?_
    refine aw_draw [0, 0, 0, 0, 0, 0, 0, 0, 0] mixed (by kernel_rfl) ?_
    refine zd0 (fun H => (op_move_tmp (by rfl))) rfl (by dsimp only [zS, zN, zH, zT]) ?_
    refine zd0 (fun H => (op_indexAddr (z := S x1) (cs := [S x1]) Try.underlying52 Sz9 (LL.d _ _) (by rfl) (by omega) (by rw [hp]; rfl) (by rfl))) rfl (by dsimp only [zS, zN, zH, zT]) ?_
    refine zd0 (fun H => (op_load_elt Try.underlying9 (by rfl) (by rfl) (by rfl))) rfl (by dsimp only [zS, zN, zH, zT]) ?_
    refine zd0 (fun H => (op_move_tmp (by rfl))) rfl (by dsimp only [zS, zN, zH, zT]) ?_
    refine zd0 (fun H => (op_indexAddr (z := S x2) (cs := [S x2]) Try.underlying52 Sz9 (LL.d _ _) (by rfl) (by omega) (by rw [hp]; rfl) (by rfl))) rfl (by dsimp only [zS, zN, zH, zT]) ?_
    refine zd0 (fun H => (op_load_elt Try.underlying9 (by rfl) (by rfl) (by rfl))) rfl (by dsimp only [zS, zN, zH, zT]) ?_
    refine zd0 (fun H => (op_assign_tmp (by rfl))) rfl (by dsimp only [zS, zN, zH, zT]) ?_
    refine zd0 (fun H => (op_assign_tmp (by rfl))) rfl (by dsimp only [zS, zN, zH, zT]) ?_
    refine zd0 (fun H => (op_assign_const (by rfl))) rfl (by dsimp only [zS, zN, zH, zT]) ?_
    refine drun_end rfl ?_
    refine then_normal ?_
    refine aw_ret ?_
    refine retPost3 rfl rfl rfl rfl ?_
    first | exact ⟨by (rw [msg_err he]) <;> rfl, rfl⟩ | exact ⟨by (rw [msg_len hl]) <;> rfl, rfl⟩ | exact ⟨by (rw [msg_no hp hx0]) <;> rfl, rfl⟩ | exact ⟨by (rw [msg_yes he hp]) <;> rfl, rfl⟩
set_option maxRecDepth 100000 in
theorem commit_ok (Hs : HS) (a b : Int) (ws : List Wt) : ACalls Try.prog 23 [.d (I a), .d (I b), .d (.lst 3 (ws.map wD))] Hs (Ret (.d (.agg (cC ⟨a, b, ws⟩))) Hs) := by
 refine ACalls.tidy1 ?_
 suffices h : ACalls Try.prog 23 [.d (I a), .d (I b), .d (.lst 3 (ws.map wD))] Hs (fun av H' => Weak av (.d (.agg (cC ⟨a, b, ws⟩))) ∧ Ext Hs H') from h.weak fun v H' ⟨h1, h2⟩ => ⟨_, h1, rfl, h2⟩
 refine acalls_of_awC Try.func23 rfl ?_
 refine aw_start (T' := [.d (I a), .d (I b), .d (.lst 3 (ws.map wD)), .un, .un, .un, .un, .un, .un, .un, .un]) rfl ?_
 refine aw_seq ?_
 refine aw_region ?_
 refine zst (op_alloc (Zr48) (by rfl)) rfl (by dsimp only [zS, zN, zH, zT]) ?_
 refine al_end rfl ?_
 refine then_normal ?_
 refine aw_seq ?_
 refine aw_region ?_
 refine zst (op_move_tmp (by rfl)) rfl (by dsimp only [zS, zN, zH, zT]) ?_
 refine zst (op_move_tmp (by rfl)) rfl (by dsimp only [zS, zN, zH, zT]) ?_
 refine zst (op_move_tmp (by rfl)) rfl (by dsimp only [zS, zN, zH, zT]) ?_
 refine zst (by first | exact op_buildD (pl := [(0, 1), (1, 1), (2, 1)]) _ Try.underlying48 Zr48 (by kernel_rfl) (by rfl) (by rfl) (by rfl) (by simp [DV.one, S, I, TF, BY]) | exact op_build (pl := [(0, 1), (1, 1), (2, 1)]) Try.underlying48 Zr48 (by kernel_rfl) (by rfl) (by rfl) (by rfl)) rfl (by dsimp only [zS, zN, zH, zT]) ?_
 refine zst (op_storeB (vs := [.d (I a), .d (I b), .d (.lst 3 (ws.map wD))]) (b' := ⟨48, [.d (I a), .d (I b), .d (.lst 3 (ws.map wD))], false⟩) (H' := _) Sz48 (by rfl) push_at (by intro h; cases h) (by rfl) (by rfl) (Nat.le_of_ble_eq_true rfl) (by simp [AV.one, DV.one, TF, S, I, BY]) (by rfl) (by rfl) rfl) rfl (by dsimp only [zS, zN, zH, zT]) ?_
 refine al_end rfl ?_
 refine then_normal ?_
 refine aw_ret ?_
 refine retC1 rfl (.cells Try.underlying48 (by rfl) Sz48 (by rfl) (setB_at push_at) (Nat.le_of_ble_eq_true rfl) (by rfl)) ?_
 exact ⟨Weak.aggD (.cons (Weak.refl _) (.cons (Weak.refl _) (.cons (Weak.refl _) .nil))) (cC_one _), ((Ext.refl Hs).push _ _).setB (Nat.le_refl _)⟩
theorem commit_at (Hs : HS) (a b : Int) (w : AV) (ws : List Wt) (hw : Weak w (.d (.lst 3 (ws.map wD)))) : ACalls Try.prog 23 [.d (I a), .d (I b), w] Hs (Ret (.d (.agg (cC ⟨a, b, ws⟩))) Hs) :=
  (commit_ok Hs a b ws).args (.cons (Weak.refl _) (.cons (Weak.refl _) (.cons hw .nil)))
end Go.Proofs.Ytjbpfnoibeogbaa
namespace Go.Proofs.Ytjbpfnoibeogbaa
open Go.AV Go.AV.Ord Go.AV.Oct Go.AV.Hist
set_option linter.unusedVariables false
set_option linter.unusedSimpArgs false
theorem run_eqM (w : World) (d : Nat) (a b : Msg) : (Op.equalIn (d + 3) 58 (.agg (mV a).toArray) (.agg (mV b).toArray)).run Try.prog w = .ok (decide (a = b)) w := by
  have hS : Try.prog.underlying 58 = some (.struct (Try.prog.fieldsOf 58)) := by kernel_rfl
  have hp : Try.prog.stoodInHeld 58 = false := by kernel_rfl
  have u3 := Try.underlying3
  have a3 := Try.isAgg3
  have u9 := Try.underlying9
  have a9 := Try.isAgg9
  have a58 := Try.isAgg58
  have z58 := Try.sizeOf58
  rw [run_equalIn_agg w (d + 2) 58 _ _ hS hp]
  simp only [Program.fieldsOf, Try.underlying58]
  obtain ⟨a1, a2, a3', a4, a5⟩ := a
  obtain ⟨b1, b2, b3, b4, b5⟩ := b
  simp only [mV, str]
  go_simp
  by_cases h1 : a1 = b1 <;> by_cases h2 : a2 = b2 <;> by_cases h3 : a3' = b3 <;> by_cases h4 : a4 = b4 <;> by_cases h5 : a5 = b5 <;> simp [h1, h2, h3, h4, h5]
theorem run_eqP (w : World) (d : Nat) (a b : Pl) : (Op.equalIn (d + 4) 119 (.agg (pV a).toArray) (.agg (pV b).toArray)).run Try.prog w = .ok (decide (a = b)) w := by
  have hS : Try.prog.underlying 119 = some (.struct (Try.prog.fieldsOf 119)) := by kernel_rfl
  have hp : Try.prog.stoodInHeld 119 = false := by kernel_rfl
  have u3 := Try.underlying3
  have a3 := Try.isAgg3
  have u9 := Try.underlying9
  have a9 := Try.isAgg9
  have a58 := Try.isAgg58
  have z58 := Try.sizeOf58
  rw [run_equalIn_agg w (d + 3) 119 _ _ hS hp]
  simp only [Program.fieldsOf, Try.underlying119]
  obtain ⟨a1, a2⟩ := a
  obtain ⟨b1, b2⟩ := b
  simp only [pV, mV, str]
  go_simp
  clear hS hp u3 a3 u9 a9 a58 z58
  (repeat' split) <;> simp_all [Msg.eqI]
end Go.Proofs.Ytjbpfnoibeogbaa
namespace Go.AV
open Go.RowKit Go.Sort
open Go.Proofs (encStr)
theorem Inv.ahead {B : Nat} {w0 w : World} {c : Ctx} {H : HS} (h : Inv B w0 c H w) : ∀ n, Inv B w0 c H (Sort.ahead w n)
  | 0 => h
  | n + 1 => by rw [← ahead_drew]; exact (Inv.ahead h n).drew
theorem Inv.grow {B : Nat} {w0 w : World} {c : Ctx} {H : HS} (h : Inv B w0 c H w) (os : Array Obj) : Inv B w0 c H (Sort.grow w os) := by
  have key : ∀ l : List Obj, ∀ w, Inv B w0 c H w → Inv B w0 c H (Sort.grow w l.toArray) := fun l => by
    induction l with
    | nil => intro w h; simpa using h
    | cons o l ih =>
      intro w h
      have := ih (w.alloc o) (h.alloc o)
      rw [alloc_eq_grow, grow_grow] at this
      simpa using this
  have := key os.toList w h
  simpa using this
theorem putCells_putA (d : Array (List UInt8)) (cur : Array Value) (h : d.size ≤ cur.size) : putCells encStr 0 d cur = putA cur 0 (d.toList.map encStr) := by
  apply Array.ext_getElem?
  intro k
  rw [putA_get (by simpa using h)]
  simp only [putCells, Array.getElem?_mapIdx, List.length_map, Array.length_toList]
  by_cases hk : k < d.size
  · rw [if_pos ⟨Nat.zero_le _, by omega⟩, Array.getElem?_eq_getElem (show k < cur.size by omega), Option.map_some, if_pos ⟨Nat.zero_le _, by omega⟩]
    simp [hk]
  · rw [if_neg (by omega)]
    cases cur[k]? with
    | none => rfl
    | some x => rw [Option.map_some, if_neg (by omega)]
theorem putRow_setRow {w : World} {g : Nat} {cur : Array Value} {e : TypeId} {fr : Nat × Nat} (hw : w.heap[g]? = some (.cells cur e fr)) (d : Array (List UInt8)) (h : d.size ≤ cur.size) : putRow encStr w g 0 d = w.setRow g (putA cur 0 (d.toList.map encStr)) := by
  unfold putRow mapBlock World.setRow
  congr 1
  apply Array.ext_getElem?
  intro k
  simp only [Array.getElem?_modify]
  by_cases hk : g = k
  · subst hk
    simp only [if_true, hw, Option.map_some, onCells, putCells_putA d cur h]
  · simp [hk]
theorem Inv.holds {B : Nat} {w0 w : World} {c : Ctx} {H : HS} (h : Inv B w0 c H w) {id g : Nat} {b : HB} (hg : c.blk[id]? = some g) (hb : H.blks[id]? = some b) (hf : b.frz = false) {ss : List (List UInt8)} (hl : ss.length ≤ b.cs.length)
    (hu : b.cs.take ss.length = ss.map fun s => .d (S s)) : Holds encStr w g 0 ss.toArray ∧ g < w.heap.size := by
  obtain ⟨p1, p2, cur, fr, p3, p4, p5, p6⟩ := h.blk id g b hg hb
  refine ⟨fun j hj => ?_, (Array.getElem?_eq_some_iff.1 p3).1⟩
  have hj' : j < ss.length := by simpa using hj
  have hjc : j < b.cs.length := by omega
  have e1 : b.cs[j] = .d (S ss[j]) := by
    have h1 : (b.cs.take ss.length)[j]? = some b.cs[j] := by rw [List.getElem?_take, if_pos hj', List.getElem?_eq_getElem hjc]
    rw [hu] at h1
    simpa [hj'] using h1.symm
  have h2 := p6 j hjc
  rw [e1] at h2
  have h3 := h2.v_eq
  have hcs : j < cur.size := by rw [p4]; exact hjc
  refine ⟨?_, ?_⟩
  · simp only [World.cell?, p3]
    simp [hcs] at h3 ⊢
    rw [h3]
    simp [hj']
  · have := p5 hf (0 + j)
    simp only [World.frozen?, p3]
    simp only [Bool.and_eq_false_iff, decide_eq_false_iff_not]
    omega
theorem Inv.putTexts {B : Nat} {w0 w : World} {c : Ctx} {H : HS} (h : Inv B w0 c H w) {id g n : Nat} {b : HB} (hg : c.blk[id]? = some g) (hb : H.blks[id]? = some b) (ts : List (List UInt8)) (hl : ts.length ≤ b.cs.length) :
    Inv B w0 c (H.put id 0 (ts.map fun s => .d (S s))) (putRow encStr (Sort.ahead w n) g 0 ts.toArray) := by
  obtain ⟨p1, p2, cur, fr, p3, p4, p5, p6⟩ := h.blk id g b hg hb
  have i1 := h.ahead n
  have hw : (Sort.ahead w n).heap[g]? = some (.cells cur b.elem fr) := p3
  rw [putRow_setRow hw ts.toArray (by rw [p4]; simpa using hl)]
  refine i1.putBlk id g 0 b hg hb _ _ (by simp) (fun j hj hj' => ?_) (by simpa using hl) cur _ fr hw
  simp only [List.getElem_map]
  exact .d (.v _ rfl)
def sortS (ss : List (List UInt8)) : List (List UInt8) := ss.mergeSort fun x y => decide (x ≤ y)
theorem sortS_len (ss : List (List UInt8)) : (sortS ss).length = ss.length := List.length_mergeSort ss
section
variable {P : Program} {Hs : HS} {id n cap : Nat} {e : TypeId} {cs : List AV} {ss : List (List UInt8)}
theorem Rep.arr_inv {c : Ctx} {v : Value} (h : Rep c v (.arr id n cap)) : ∃ g, v = .slice (some ⟨g, 0, none⟩) n cap ∧ c.blk[id]? = some g := by
  cases h with
  | arr _ _ _ g h => exact ⟨g, rfl, h⟩
theorem one_arg {c : Ctx} {vs : Array Value} {x : AV} (hs : vs.size = [x].length) (ha : ∀ i (hi : i < [x].length), Rep c (vs.getD i undef) [x][i]) : ∃ v, vs = #[v] ∧ Rep c v x := by
  have h1 : vs.size = 1 := hs
  refine ⟨vs.getD 0 undef, ?_, ha 0 (by simp)⟩
  apply Array.ext
  · simp [h1]
  · intro i hi hi'
    have : i = 0 := by omega
    subst this
    simp [h1]
theorem sort_av {ρ : Go.Shelf.Ren} (L : Go.Proofs.Lays.n190 P ρ) (hb : Hs.blks[id]? = some ⟨e, cs, false⟩) (hl : ss.length ≤ cs.length) (hu : cs.take ss.length = ss.map fun s => .d (S s)) (hm : ss.length < 4611686018427387904) :
    ACalls P (ρ.f 190) [.arr id ss.length cap] Hs (Ret (.tup []) (Hs.put id 0 ((sortS ss).map fun s => .d (S s)))) := by
  intro B w0 c w vs hI hs ha
  obtain ⟨v, rfl, hv⟩ := one_arg hs ha
  obtain ⟨g, rfl, hg⟩ := hv.arr_inv
  obtain ⟨hH, hlt⟩ := hI.holds hg hb rfl hl hu
  refine (Go.Proofs.Any.slices_Sort_string L g 0 cap ss w hH hlt hm).mono ?_
  rintro e' w' ⟨rfl, n, os, rfl⟩
  refine ⟨_, .tup [], _, c, rfl, Le.refl c, .tup _ _ rfl fun i hi => by simp at hi, (hI.putTexts hg hb (sortS ss) (by rw [sortS_len]; exact hl)).grow os, rfl, rfl⟩
theorem sort_none {ρ : Go.Shelf.Ren} (L : Go.Proofs.Lays.n190 P ρ) : ACalls P (ρ.f 190) [nilS] Hs (Ret (.tup []) Hs) := by
  intro B w0 c w vs hI hs ha
  obtain ⟨v, rfl, hv⟩ := one_arg hs ha
  obtain rfl := hv.v_eq
  refine (Go.Proofs.Any.slices_Sort_string_none L none 0 w).mono ?_
  rintro e' w' ⟨rfl, rfl⟩
  exact ⟨_, .tup [], _, c, rfl, Le.refl c, .tup _ _ rfl fun i hi => by simp at hi, hI, rfl, rfl⟩
def compS (ss : List (List UInt8)) : List (List UInt8) := Lib.compact ss
theorem compS_len (ss : List (List UInt8)) : (compS ss).length ≤ ss.length := by
  unfold compS Lib.compact Lib.compactUpTo
  rw [List.length_map]
  exact Nat.le_trans (List.length_filter_le _ _) (by simp)
def padS (ss : List (List UInt8)) : List (List UInt8) := compS ss ++ List.replicate (ss.length - (compS ss).length) []
theorem compact_av {ρ : Go.Shelf.Ren} (L : Go.Proofs.Lays.n194 P ρ) (hb : Hs.blks[id]? = some ⟨e, cs, false⟩) (hl : ss.length ≤ cs.length) (hu : cs.take ss.length = ss.map fun s => .d (S s)) (hm : ss.length ≤ 9223372036854775807) (hc : ss.length ≤ cap) (hp : (compS ss).length ≤ ss.length) :
    ACalls P (ρ.f 194) [.arr id ss.length cap] Hs (Ret (.arr id (compS ss).length cap) (Hs.put id 0 ((padS ss).map fun s => .d (S s)))) := by
  intro B w0 c w vs hI hs ha
  obtain ⟨v, rfl, hv⟩ := one_arg hs ha
  obtain ⟨g, rfl, hg⟩ := hv.arr_inv
  obtain ⟨hH, hlt⟩ := hI.holds hg hb rfl hl hu
  refine (Go.Proofs.Any.slices_Compact_string L g 0 cap ss w hH hm hc).mono ?_
  rintro e' w' ⟨rfl, q, rfl⟩
  exact ⟨_, _, _, c, rfl, Le.refl c, .arr id _ cap g hg, hI.putTexts hg hb (padS ss) (by simp [padS]; omega), rfl, rfl⟩
theorem compact_none {ρ : Go.Shelf.Ren} (L : Go.Proofs.Lays.n194 P ρ) : ACalls P (ρ.f 194) [nilS] Hs (Ret nilS Hs) := by
  intro B w0 c w vs hI hs ha
  obtain ⟨v, rfl, hv⟩ := one_arg hs ha
  obtain rfl := hv.v_eq
  refine (Go.Proofs.Any.slices_Compact_string_empty L none 0 w).mono ?_
  rintro e' w' ⟨rfl, rfl⟩
  exact ⟨_, nilS, _, c, rfl, Le.refl c, .d (.v _ rfl), hI, rfl, rfl⟩
theorem mclone_av {ρ : Go.Shelf.Ren} (L : Go.Proofs.SlLaysW.n5 P ρ) {es : List (List UInt8 × DV)} (hm : Hs.maps[id]? = some (.map es)) : ACalls P (ρ.f 5) [.map id] Hs (Ret (.map Hs.nm) (Hs.pushM (.map es))) := by
  intro B w0 c w vs hI hs ha
  obtain ⟨v, rfl, hv⟩ := one_arg hs ha
  obtain ⟨g, rfl, hg⟩ := hv.map_inv
  obtain ⟨_, q⟩ := hI.maps.is id g _ hg hm
  obtain ⟨xs, clock, hw, ho⟩ := q.map_inv
  refine (Go.Proofs.AnyW.maps_Clone L g xs clock w hw).mono ?_
  rintro e' w' ⟨rfl, rfl⟩
  obtain ⟨i1, l1⟩ := hI.allocM (.map xs clock) (.map es) (.map _ es xs clock (heap_new w _) ho)
  exact ⟨_, _, _, _, rfl, l1, .map _ _ (by simp [HS.nm, ← hI.maps.len]), i1, rfl, rfl⟩
end
theorem ACalls.tidyM {P : Program} {f : FuncId} {args : List AV} {H : HS} {R : AV → HS → Prop}
    (h : ACalls P f args H fun av H' => ∃ (m : MB) (x0 l : AV) (ids : List (List UInt8)) (ed : DV), av = .tup [x0, l, .d ed] ∧ Ext (H.pushM m) H' ∧ (x0 = .map H.nm ∨ ∃ z, x0 = .d z) ∧
      (l = nilS ∧ ids = [] ∨ ∃ id cap b, l = .arr id ids.length cap ∧ H.nb ≤ id ∧ H'.blks[id]? = some b ∧ b.cs.take ids.length = ids.map (fun s => .d (S s)) ∧ ids.length ≤ b.cs.length ∧ ids.length ≤ cap) ∧ R (.tup [x0, .d (.lst 1 (ids.map S)), .d ed]) (H.pushM m)) : ACalls P f args H R := by
  intro B w0 c w vs hI hs ha
  refine (h B w0 c w vs hI hs ha).mono ?_
  rintro e w' ⟨v, av, H', c', rfl, q1, q2, q3, m, x0, l, ids, ed, rfl, ⟨⟨l1, h5⟩, ⟨l2, h6⟩, hmm⟩, hx0, hl, hR⟩
  have h5' : H'.blks = H.blks ++ l1 := h5
  have h6' : H'.toks = H.toks ++ l2 := h6
  have hcut : H'.cut H.blks.length H.toks.length = H.pushM m := by
    have e1 : H'.maps = H.maps ++ [m] := hmm
    unfold HS.cut HS.pushM
    rw [h5', h6', e1, List.take_left, List.take_left]
  have hfit : ∀ i b, i < H.blks.length → H'.blks[i]? = some b → ∀ j (hj : j < b.cs.length), Fits H.blks.length H.toks.length b.cs[j] := fun i b hi hb j hj => by
    have hb' : H.blks[i]? = some b := by rw [h5', List.getElem?_append_left (by omega)] at hb; exact hb
    have hlt : i < c.blk.length := by rw [hI.blkLen]; exact hi
    obtain ⟨_, _, cur, fr, _, _, _, q⟩ := hI.blk i _ b (List.getElem?_eq_getElem hlt) hb'
    have := (q j hj).fits
    rwa [hI.blkLen, hI.tokLen] at this
  have hblk : ∀ (i g : Nat), c.blk[i]? = some g → (c'.blk.take H.blks.length)[i]? = some g := fun i g hi => by
    have : i < c.blk.length := (List.getElem?_eq_some_iff.1 hi).1
    rw [List.getElem?_take, if_pos (by have := hI.blkLen; omega)]
    exact q1.blk i g hi
  have htok : ∀ (i : Nat) (e : Tok), c.tok[i]? = some e → ∃ e' : Tok, (c'.tok.take H.toks.length)[i]? = some e' ∧ (e' = e ∨ e.mark < e'.mark) := fun i e he => by
    have : i < c.tok.length := (List.getElem?_eq_some_iff.1 he).1
    obtain ⟨e', q1, q2⟩ := q1.tok i e he
    refine ⟨e', ?_, q2⟩
    rw [List.getElem?_take, if_pos (by have := hI.tokLen; omega)]
    exact q1
  have hv2 : ∃ u0 u1 u2 : Value, v = .tuple #[u0, u1, u2] ∧ Rep c' u0 x0 ∧ Rep c' u1 l ∧ Rep c' u2 (.d ed) := by
    generalize ha : AV.tup [x0, l, .d ed] = av at q2
    cases q2 with
    | tup us cs hl hr =>
      cases ha
      obtain ⟨ul⟩ := us
      match ul, hl with
      | [u0, u1, u2], _ => exact ⟨u0, u1, u2, rfl, hr 0 (by simp), hr 1 (by simp), hr 2 (by simp)⟩
    | _ => cases ha
  obtain ⟨u0, u1, u2, rfl, qa, qb, qc⟩ := hv2
  have three : ∀ {k : Ctx}, Rep k u0 x0 → Rep k u1 (.d (.lst 1 (ids.map S))) → Rep k u2 (.d ed) → Rep k (.tuple #[u0, u1, u2]) (.tup [x0, .d (.lst 1 (ids.map S)), .d ed]) := fun h1 h2 h3 => .tup _ _ rfl fun i hi => by
    match i, hi with
    | 0, _ => exact h1
    | 1, _ => exact h2
    | 2, _ => exact h3
  have hf0 : Fits H.blks.length H.toks.length x0 := by
    rcases hx0 with rfl | ⟨z, rfl⟩
    · exact .map _
    · exact .d _
  rcases hl with ⟨rfl, rfl⟩ | ⟨id, cap, b, rfl, hid, hb, hd, hlen, hcap⟩
  · have i1 := q3.cut H.blks.length H.toks.length hfit
    rw [hcut] at i1
    refine ⟨_, _, _, c'.cut H.blks.length H.toks.length, rfl, ⟨q1.mem, hblk, htok, q1.maps⟩, three (qa.cut hf0) ?_ (.d (qc.d_inv.mono (fun _ _ _ h => h))), i1, hR⟩
    have := Weak.nil 1 c' u1 qb
    exact .d (this.d_inv.mono (fun _ _ _ h => h))
  · have hidl : id < c'.blk.length := by rw [q3.blkLen]; exact (List.getElem?_eq_some_iff.1 hb).1
    have hfl : flat (ids.map S) = ids.map S := by
      have : ∀ l : List (List UInt8), flat (l.map S) = l.map S := fun l => by
        induction l with
        | nil => rfl
        | cons x l ih => simp only [List.map_cons, flat, List.flatMap_cons] at ih ⊢; rw [ih]; rfl
      exact this ids
    obtain ⟨vals, i1, m1, m2, m3⟩ := q3.protect id _ b (List.getElem?_eq_getElem hidl) hb H.blks.length H.toks.length hid hfit (ids.map S) (by rw [List.length_map, hd, List.map_map]; rfl) (by simpa using hlen)
    rw [hcut] at i1
    obtain ⟨g, hg, rfl⟩ := arr_val qb
    rw [List.getElem?_eq_getElem hidl] at hg
    cases hg
    have h0 : Rep (c'.cut H.blks.length H.toks.length) u0 x0 := qa.cut hf0
    refine ⟨_, _, _, _, rfl, ⟨fun g o u hm => m1 g o u (q1.mem g o u hm), hblk, htok, q1.maps⟩, three ?_ ?_ (.d (qc.d_inv.mono m1)), i1, hR⟩
    · rcases hx0 with rfl | ⟨z, rfl⟩
      · obtain ⟨g0, rfl, hg0⟩ := qa.map_inv
        exact .map _ g0 hg0
      · exact .d (qa.d_inv.mono m1)
    · refine .d (.lst _ 0 _ cap 1 _ vals (by simp) hcap (fun x hx => ?_) (fun x hx => ?_) (fun i hi => ?_) (fun i hi => ?_))
      · obtain ⟨s, _, rfl⟩ := List.mem_map.1 hx; rfl
      · rw [hfl] at hx
        obtain ⟨s, _, rfl⟩ := List.mem_map.1 hx; rfl
      · rw [Nat.zero_add]
        exact m2 i (by rw [hfl] at hi; exact hi)
      · have hi' : i < (ids.map S).length := by rw [hfl] at hi; exact hi
        have := (m3 i hi').mono m1
        simp only [hfl]
        exact this
section
variable {P : Program} {E : Operand → AV} {H : HS} {dst : Option Tmp} {ty : TypeId} {pos : String} {after : Array Edge} {gd : Option (Nat × Bool)}
theorem op_field1 {x : Operand} {t : TypeId} {k : Nat} {fs : Array Field} {f : Field} {cs : List DV} {d : DV} (ht : P.underlying t = some (.struct fs)) (hf : fs[k]? = some f) (ha : ∀ w, (isAgg f.type).run P w = .ok false w) (hx : E x = .d (.agg cs)) (hd : cs[f.offset]? = some d) :
    OpR P ⟨dst, .field t x k, ty, pos, after, gd⟩ E H (Ret (.d d) H) :=
  opR_pure fun c w a _ hops => by
    have h1 := hops x (by simp [Op.operands])
    rw [hx] at h1
    generalize hv : a.eval x = v at h1
    generalize hc : DV.agg cs = y at h1
    have h2 := h1.d_inv
    cases h2 with
    | agg vs cs' hl h1' hr =>
      cases hc
      have hlt := (List.getElem?_eq_some_iff.1 hd).1
      have hvs : f.offset < vs.size := by rw [hl]; exact hlt
      have h3 := hr f.offset hlt
      rw [(List.getElem?_eq_some_iff.1 hd).2] at h3
      refine ⟨vs[f.offset], ?_, .d (by simpa [hvs] using h3)⟩
      simp [execOp, Instr.field, hv, run_underlying ht, hf, part, ha, asAgg, Result.andThen, hvs]
    | _ => cases hc
end
structure Texts (H H' : HS) (id : Nat) (e : TypeId) (n : Nat) (ts : List (List UInt8)) : Prop where
  blk : ∃ cs, H'.blks[id]? = some ⟨e, cs, false⟩ ∧ cs.take ts.length = (ts.map fun s => AV.d (S s)) ∧ ts.length ≤ cs.length ∧ cs.length = n
  oth : ∀ j, j ≠ id → H'.blks[j]? = H.blks[j]?
  toks : H'.toks = H.toks
  maps : H'.maps = H.maps
  nb : H'.nb = H.nb
theorem Texts.put {H : HS} {id : Nat} {e : TypeId} {cs : List AV} (hb : H.blks[id]? = some ⟨e, cs, false⟩) (ts : List (List UInt8)) (hl : ts.length ≤ cs.length) : Texts H (H.put id 0 (ts.map fun s => .d (S s))) id e cs.length ts := by
  refine ⟨⟨_, put_blks_at hb, ?_, ?_, ?_⟩, fun j hj => put_blks_ne hj, rfl, rfl, put_nb⟩
  · have := putL_take (ts.map fun s => AV.d (S s)) cs 0 (by simpa using hl)
    simpa using this
  · rw [putL_length]; exact hl
  · rw [putL_length]
theorem Texts.ext {B H H' : HS} {id n : Nat} {e : TypeId} {ts : List (List UInt8)} (h : Texts H H' id e n ts) (hx : Ext B H) (hid : B.nb ≤ id) : Ext B H' := hx.of h.toks (fun j hj => h.oth j (by omega)) h.maps
theorem Arr.or {H : HS} {e : TypeId} {v : AV} {ids : List (List UInt8)} (h : Arr H e 1 v ids.length (ids.map fun s => AV.d (S s))) : (v = nilS ∧ ids = []) ∨
    ∃ id cap cs, v = .arr id ids.length cap ∧ H.blks[id]? = some ⟨e, cs, false⟩ ∧ cs.take ids.length = (ids.map fun s => AV.d (S s)) ∧ ids.length ≤ cs.length ∧ ids.length ≤ cap := by
  generalize hn : ids.length = n at h
  generalize hu : (ids.map fun s => AV.d (S s)) = us at h
  cases h with
  | nil => exact .inl ⟨rfl, List.length_eq_zero_iff.1 hn⟩
  | arr id _ cap cs _ hb hc hl hu' => exact .inr ⟨id, cap, cs, rfl, hb, by rw [Nat.mul_one] at hu'; exact hu', by omega, hl⟩
def NoIt (H : HS) : Prop := ∀ (j : Nat) (o : Option Nat) (n : Nat) q, H.maps[j]? ≠ some (.iter o n q)
theorem NoIt.ext {Hs H : HS} {es : List (List UInt8 × DV)} (h : NoIt Hs) (hx : Ext (Hs.pushM (.map es)) H) : NoIt H := by
  intro j o n q he
  rw [hx.maps] at he
  have he' : (Hs.maps ++ [MB.map es])[j]? = some (.iter o n q) := he
  by_cases hj : j < Hs.maps.length
  · rw [List.getElem?_append_left hj] at he'; exact h j o n q he'
  · rw [List.getElem?_append_right (by omega)] at he'
    cases hk : j - Hs.maps.length with
    | zero => rw [hk] at he'; simp at he'
    | succ k => rw [hk] at he'; simp at he'
theorem Ext.setM {Hs H : HS} {m m' : MB} (h : Ext (Hs.pushM m) H) : Ext (Hs.pushM m') (H.setM Hs.nm m') :=
  ⟨h.blks, h.toks, by
    show H.maps.set Hs.maps.length m' = Hs.maps ++ [m']
    rw [h.maps]
    show (Hs.maps ++ [m]).set Hs.maps.length m' = _
    rw [List.set_append_right _ _ (Nat.le_refl _)]; simp⟩
theorem pushM_at {Hs H : HS} {m : MB} (h : Ext (Hs.pushM m) H) : H.maps[Hs.nm]? = some m := by
  rw [h.maps]
  show (Hs.maps ++ [m])[Hs.maps.length]? = _
  simp
def TX (H : HS) (e : TypeId) (v : AV) (ids : List (List UInt8)) : Prop := Arr H e 1 v ids.length (ids.map fun s => AV.d (S s))
section
variable {P : Program} {Hs : HS} {e : TypeId} {v : AV} {ss : List (List UInt8)}
theorem Texts.kept {H H' : HS} {id n k cap : Nat} {ts : List (List UInt8)} (h : Texts H H' id e n ts) : Kept H H' (.arr id k cap) :=
  ⟨h.toks, by rw [h.nb]; exact Nat.le_refl _, fun j _ hne => h.oth j (fun hj => hne k cap (by rw [hj])), h.maps⟩
theorem TX.sort {ρ : Go.Shelf.Ren} (L : Go.Proofs.Lays.n190 P ρ) (h : TX Hs e v ss) (hm : ss.length < 4611686018427387904) : ACalls P (ρ.f 190) [v] Hs (fun av H' => av = .tup [] ∧ TX H' e v (sortS ss) ∧ Kept Hs H' v) := by
  unfold TX at h ⊢
  generalize hn : ss.length = n at h
  generalize hu : (ss.map fun s => AV.d (S s)) = us at h
  cases h with
  | nil =>
    obtain rfl := List.length_eq_zero_iff.1 hn
    exact (sort_none L).mono fun av H' ⟨h1, h2⟩ => ⟨h1, by rw [h2, show sortS [] = [] from by simp [sortS]]; exact .nil, by rw [h2]; exact ⟨rfl, Nat.le_refl _, fun _ _ _ => rfl, rfl⟩⟩
  | arr id _ cap cs _ hb hc hl hu' =>
    subst hn
    rw [Nat.mul_one] at hu' hc
    have hlen : ss.length ≤ cs.length := by omega
    refine (sort_av (cap := cap) L hb hlen (hu'.trans hu.symm) hm).mono fun av H' ⟨h1, h2⟩ => ⟨h1, ?_, ?_⟩
    · obtain ⟨⟨cs', q1, q2, q3, q4⟩, _⟩ := Texts.put hb (sortS ss) (by rw [sortS_len]; exact hlen)
      rw [h2]
      rw [sortS_len] at q2 ⊢
      exact .arr id _ cap cs' _ q1 (by rw [q4, hc, Nat.mul_one]) hl (by rw [Nat.mul_one]; exact q2)
    · rw [h2]; exact (Texts.put hb (sortS ss) (by rw [sortS_len]; exact hlen)).kept
theorem TX.compact {ρ : Go.Shelf.Ren} (L : Go.Proofs.Lays.n194 P ρ) (h : TX Hs e v ss) (hm : ss.length ≤ 9223372036854775807) (hp : (compS ss).length ≤ ss.length) :
    ACalls P (ρ.f 194) [v] Hs (fun av H' => TX H' e av (compS ss) ∧ Kept Hs H' v ∧ ∀ id n cap, av = .arr id n cap → ∃ n' cap', v = .arr id n' cap') := by
  unfold TX at h ⊢
  generalize hn : ss.length = n at h
  generalize hu : (ss.map fun s => AV.d (S s)) = us at h
  cases h with
  | nil =>
    obtain rfl := List.length_eq_zero_iff.1 hn
    refine (compact_none L).mono fun av H' ⟨h1, h2⟩ => ⟨?_, by rw [h2]; exact ⟨rfl, Nat.le_refl _, fun _ _ _ => rfl, rfl⟩, fun id n cap e => by rw [h1] at e; cases e⟩
    rw [h1, List.length_eq_zero_iff.1 (Nat.le_zero.1 hp)]
    exact .nil
  | arr id _ cap cs _ hb hc hl hu' =>
    subst hn
    rw [Nat.mul_one] at hu' hc
    have hlen : ss.length ≤ cs.length := by omega
    have hpad : (padS ss).length = ss.length := by simp [padS]; omega
    refine (compact_av (cap := cap) L hb hlen (hu'.trans hu.symm) hm hl hp).mono fun av H' ⟨h1, h2⟩ => ⟨?_, ?_, fun id' n' cap' e => by rw [h1] at e; cases e; exact ⟨_, _, rfl⟩⟩
    · obtain ⟨⟨cs', q1, q2, q3, q4⟩, _⟩ := Texts.put hb (padS ss) (by rw [hpad]; exact hlen)
      rw [h2, h1]
      refine .arr id _ cap cs' _ q1 (by rw [q4, hc, Nat.mul_one]) (by omega) ?_
      have := congrArg (List.take (compS ss).length) q2
      rw [List.take_take, hpad, Nat.min_eq_left hp] at this
      rw [Nat.mul_one, this]
      unfold padS
      rw [List.map_append, List.take_left' (by simp)]
    · rw [h2]; exact (Texts.put hb (padS ss) (by rw [hpad]; exact hlen)).kept
theorem TX.push {H : HS} (h : TX H e v ss) (t : TypeId) (cs : List AV) : TX (H.push t cs) e v ss := by
  unfold TX at h ⊢
  generalize ss.length = n at h ⊢
  generalize (ss.map fun s => AV.d (S s)) = us at h ⊢
  cases h with
  | nil => exact .nil
  | arr id _ cap cs' _ hb hc hl hu => exact .arr id _ cap cs' _ (push_ne hb) hc hl hu
theorem TX.setB {H : HS} {i : Nat} {b : HB} (h : TX H e v ss) (hne : ∀ id n cap, v = .arr id n cap → id ≠ i) : TX (H.setB i b) e v ss := by
  unfold TX at h ⊢
  generalize ss.length = n at h ⊢
  generalize (ss.map fun s => AV.d (S s)) = us at h ⊢
  cases h with
  | nil => exact .nil
  | arr id _ cap cs' _ hb hc hl hu => exact .arr id _ cap cs' _ (by rw [setB_ne (hne _ _ _ rfl)]; exact hb) hc hl hu
theorem TX.setM {H : HS} {i : Nat} {m : MB} (h : TX H e v ss) : TX (H.setM i m) e v ss := by
  unfold TX at h ⊢
  generalize ss.length = n at h ⊢
  generalize (ss.map fun s => AV.d (S s)) = us at h ⊢
  cases h with
  | nil => exact .nil
  | arr id _ cap cs' _ hb hc hl hu => exact .arr id _ cap cs' _ hb hc hl hu
theorem TX.lt {H : HS} (h : TX H e v ss) : ∀ id n cap, v = .arr id n cap → id < H.nb := by
  intro id n cap hv
  unfold TX at h
  generalize ss.length = k at h
  generalize (ss.map fun s => AV.d (S s)) = us at h
  cases h with
  | nil => cases hv
  | arr id' _ cap' cs' _ hb hc hl hu => cases hv; exact (List.getElem?_eq_some_iff.1 hb).1
theorem TX.or {H : HS} (h : TX H e v ss) : (v = nilS ∧ ss = []) ∨ ∃ id cap b, v = .arr id ss.length cap ∧ H.blks[id]? = some b ∧ b.cs.take ss.length = (ss.map fun s => AV.d (S s)) ∧ ss.length ≤ b.cs.length ∧ ss.length ≤ cap := by
  rcases Arr.or h with h | ⟨id, cap, cs, h1, h2, h3, h4, h5⟩
  · exact .inl h
  · exact .inr ⟨id, cap, _, h1, h2, h3, h4, h5⟩
theorem TX.one {H : HS} {e : TypeId} {v : AV} {us : List AV} {s : List UInt8} (h : Arr H e 1 v (ss.length + 1) (us ++ [.d (S s)])) (hu : us = ss.map fun s => AV.d (S s)) : TX H e v (ss ++ [s]) := by
  unfold TX
  rw [List.length_append, List.map_append, ← hu]
  exact h
theorem Kept.ext {B H H' : HS} {v : AV} (k : Kept H H' v) (h : Ext B H) (hv : ∀ id n c, v = .arr id n c → B.nb ≤ id) : Ext B H' :=
  h.of k.toks (fun j hj => k.blks j (by have := nb_le h; omega) fun n c e => by have := hv _ _ _ e; omega) k.maps
theorem TX.grown {B H H1 : HS} (hT : TX H e v ss) (hv : ∀ id n c, v = .arr id n c → B.nb ≤ id) (hB : B.nb ≤ H1.nb) {id3 m3 cap3 : Nat} (hn : v = nilS → H1.nb ≤ id3) (ho : ∀ j n cap, v = .arr j n cap → id3 = j ∨ H1.nb ≤ id3) :
    ∀ i n cap, AV.arr id3 m3 cap3 = .arr i n cap → B.nb ≤ i := by
  intro i n cap h
  cases h
  rcases hT.or with ⟨h, _⟩ | ⟨j, c, b, h, _⟩
  · have := hn h; omega
  · rcases ho _ _ _ h with rfl | h2
    · exact hv _ _ _ h
    · omega
theorem TX.fin {B H : HS} (h : TX H e v ss) (hv : ∀ id n c, v = .arr id n c → B.nb ≤ id) : v = nilS ∧ ss = [] ∨ ∃ id cap b, v = .arr id ss.length cap ∧ B.nb ≤ id ∧ H.blks[id]? = some b ∧ b.cs.take ss.length = (ss.map fun s => AV.d (S s)) ∧ ss.length ≤ b.cs.length ∧ ss.length ≤ cap := by
  rcases h.or with h | ⟨id, cap, b, h1, h2, h3, h4, h5⟩
  · exact .inl h
  · exact .inr ⟨id, cap, b, h1, hv _ _ _ h1, h2, h3, h4, h5⟩
end
end Go.AV
namespace Go.AV.Hist
open Go.AV.Ord Go.AV.Oct
def mE (ps : List (List UInt8 × Pl)) : List (List UInt8 × DV) := ps.map fun x => (x.1, pD x.2)
def getK : List (List UInt8 × Pl) → List UInt8 → Option Pl
  | [], _ => none
  | e :: es, k => if e.1 = k then some e.2 else getK es k
def putK : List (List UInt8 × Pl) → List UInt8 → Pl → List (List UInt8 × Pl)
  | [], k, v => [(k, v)]
  | e :: es, k, v => if e.1 = k then (k, v) :: es else e :: putK es k v
def delK : List (List UInt8 × Pl) → List UInt8 → List (List UInt8 × Pl)
  | [], _ => []
  | e :: es, k => if e.1 = k then es else e :: delK es k
theorem getE_mE : ∀ (ps : List (List UInt8 × Pl)) (k : List UInt8), getE (mE ps) k = (getK ps k).map pD
  | [], _ => rfl
  | e :: ps, k => by
    show (if e.1 = k then some (pD e.2) else getE (mE ps) k) = _
    unfold getK
    by_cases h : e.1 = k
    · rw [if_pos h, if_pos h]; rfl
    · rw [if_neg h, if_neg h]; exact getE_mE ps k
theorem putE_mE : ∀ (ps : List (List UInt8 × Pl)) (k : List UInt8) (p : Pl), putE (mE ps) k (pD p) = mE (putK ps k p)
  | [], _, _ => rfl
  | e :: ps, k, p => by
    show (if e.1 = k then (k, pD p) :: mE ps else (e.1, pD e.2) :: putE (mE ps) k (pD p)) = _
    unfold putK
    by_cases h : e.1 = k
    · rw [if_pos h, if_pos h]; rfl
    · rw [if_neg h, if_neg h, putE_mE ps k p]; rfl
theorem delE_mE : ∀ (ps : List (List UInt8 × Pl)) (k : List UInt8), delE (mE ps) k = mE (delK ps k)
  | [], _ => rfl
  | e :: ps, k => by
    show (if e.1 = k then mE ps else (e.1, pD e.2) :: delE (mE ps) k) = _
    unfold delK
    by_cases h : e.1 = k
    · rw [if_pos h, if_pos h]
    · rw [if_neg h, if_neg h, delE_mE ps k]; rfl
def atK (ps : List (List UInt8 × Pl)) (k : List UInt8) : Pl := (getK ps k).getD P0
theorem getE_at (ps : List (List UInt8 × Pl)) (k : List UInt8) : (getE (mE ps) k).getD (pD P0) = pD (atK ps k) := by
  rw [getE_mE, atK]; cases getK ps k <;> rfl
theorem op_lookup_pl {P : Program} {E : Operand → AV} {H : HS} {dst : Option Tmp} {ty : TypeId} {pos : String} {after : Array Edge} {gd : Option (Nat × Bool)} {x k : Operand} {t kt et : TypeId} {z : Value} {id : Nat} {ps : List (List UInt8 × Pl)} {l : List UInt8}
    (ht : P.underlying t = some (.map kt et)) (hkt : P.underlying kt = some .string) (hz : (P.info? et).map (·.zero) = some (some z)) (hd : ∀ m, RepD m z (.agg (pC P0))) (hx : E x = .map id) (hl : E k = .d (S l)) (hm : H.maps[id]? = some (.map (mE ps))) :
    OpR P ⟨dst, .lookup t x k false, ty, pos, after, gd⟩ E H (Ret (.d (.agg (pC (atK ps l)))) H) := by
  have h := op_lookup (d0 := pD P0) (dst := dst) (ty := ty) (pos := pos) (after := after) (gd := gd) ht hkt hz hd hx hl hm
  rwa [getE_at] at h
theorem op_lookup_at {P : Program} {E : Operand → AV} {H : HS} {dst : Option Tmp} {ty : TypeId} {pos : String} {after : Array Edge} {gd : Option (Nat × Bool)} {x k : Operand} {t kt et : TypeId} {z : Value} {id : Nat} {ps : List (List UInt8 × Pl)} {l : List UInt8} {p : Pl} (hp : atK ps l = p)
    (ht : P.underlying t = some (.map kt et)) (hkt : P.underlying kt = some .string) (hz : (P.info? et).map (·.zero) = some (some z)) (hd : ∀ m, RepD m z (.agg (pC P0))) (hx : E x = .map id) (hl : E k = .d (S l)) (hm : H.maps[id]? = some (.map (mE ps))) :
    OpR P ⟨dst, .lookup t x k false, ty, pos, after, gd⟩ E H (Ret (.d (.agg (pC p))) H) := by
  rw [← hp]; exact op_lookup_pl ht hkt hz hd hx hl hm
def turnT : List (List UInt8 × Pl) → List (List UInt8) → List Wt → Option (List (List UInt8 × Pl) × List (List UInt8))
  | ps, ids, [] => some (ps, ids)
  | ps, ids, w :: ws => if (msgT w.key).2.2 = false then turnT ps ids ws else
    if w.gone then turnT (if (atK ps (msgT w.key).2.1).q = (msgT w.key).1 then delK ps (msgT w.key).2.1 else ps) (ids ++ [(msgT w.key).2.1]) ws else
      if decE w.val = 0 then turnT (putK ps (msgT w.key).2.1 ⟨(msgT w.key).1, decM (msgT w.key).2.1 w.val⟩) (ids ++ [(msgT w.key).2.1]) ws else none
theorem decE_14 {s : List UInt8} (h : ¬ decE s = 0) : decE s = 14 := by
  unfold decE at h ⊢
  split
  · rename_i h2; rw [if_pos h2] at h; exact absurd rfl h
  · rfl
end Go.AV.Hist
namespace Go.Proofs.Ytjbpfnoibeogbaa
open Go.AV Go.AV.Ord Go.AV.Oct Go.AV.Hist
set_option linter.unusedVariables false
set_option linter.unusedSimpArgs false
def laysSort_ren : Go.Shelf.Ren := ⟨fun | 190 => 85 | 125 => 116 | 258 => 115 | 128 => 150 | 129 => 151 | 302 => 141 | 303 => 142 | 304 => 143 | 305 => 144 | 306 => 145 | 307 => 146 | 308 => 147 | 309 => 148 | 310 => 149 | 333 => 164 | 329 => 165 | 330 => 166 | 334 => 167 | 335 => 168 | 336 => 169 | 344 => 179 | n => n, fun | 31 => 52 | 9 => 9 | 3 => 3 | 46 => 164 | 0 => 0 | 51 => 240 | 53 => 177 | 4 => 4 | 183 => 233 | 182 => 232 | 131 => 98 | 5 => 5 | 218 => 250 | 222 => 254 | 228 => 265 | 229 => 266 | n => n, fun | n => n⟩
theorem laysSort : Go.Proofs.Lays.n190 Try.prog laysSort_ren := {
  mixed := by kernel_rfl,
  f125 := Try.func116.trans (congrArg some (by kernel_rfl)),
  f128 := Try.func150.trans (congrArg some (by kernel_rfl)),
  f129 := Try.func151.trans (congrArg some (by kernel_rfl)),
  f190 := Try.func85.trans (congrArg some (by kernel_rfl)),
  f258 := Try.func115.trans (congrArg some (by kernel_rfl)),
  f302 := Try.func141.trans (congrArg some (by kernel_rfl)),
  f303 := Try.func142.trans (congrArg some (by kernel_rfl)),
  f304 := Try.func143.trans (congrArg some (by kernel_rfl)),
  f305 := Try.func144.trans (congrArg some (by kernel_rfl)),
  f306 := Try.func145.trans (congrArg some (by kernel_rfl)),
  f307 := Try.func146.trans (congrArg some (by kernel_rfl)),
  f308 := Try.func147.trans (congrArg some (by kernel_rfl)),
  f309 := Try.func148.trans (congrArg some (by kernel_rfl)),
  f310 := Try.func149.trans (congrArg some (by kernel_rfl)),
  f329 := Try.func165.trans (congrArg some (by kernel_rfl)),
  f330 := Try.func166.trans (congrArg some (by kernel_rfl)),
  f333 := Try.func164.trans (congrArg some (by kernel_rfl)),
  f334 := Try.func167.trans (congrArg some (by kernel_rfl)),
  f335 := Try.func168.trans (congrArg some (by kernel_rfl)),
  f336 := Try.func169.trans (congrArg some (by kernel_rfl)),
  f344 := Try.func179.trans (congrArg some (by kernel_rfl)),
  t0 := Try.underlying0,
  a0 := Try.isAgg0,
  z0 := Try.sizeOf0,
  v0 := Try.zeroValue0,
  t3 := Try.underlying3,
  a3 := Try.isAgg3,
  z3 := Try.sizeOf3,
  v3 := Try.zeroValue3,
  t4 := Try.underlying4,
  a4 := Try.isAgg4,
  z4 := Try.sizeOf4,
  v4 := Try.zeroValue4,
  t5 := Try.underlying5,
  a5 := Try.isAgg5,
  z5 := Try.sizeOf5,
  v5 := Try.zeroValue5,
  t9 := Try.underlying9,
  a9 := Try.isAgg9,
  z9 := Try.sizeOf9,
  v9 := Try.zeroValue9,
  t31 := Try.underlying52,
  a31 := Try.isAgg52,
  z31 := Try.sizeOf52,
  v31 := Try.zeroValue52,
  t46 := Try.underlying164,
  a46 := Try.isAgg164,
  z46 := Try.sizeOf164,
  v46 := Try.zeroValue164,
  t51 := Try.underlying240,
  a51 := Try.isAgg240,
  z51 := Try.sizeOf240,
  v51 := Try.zeroValue240,
  t53 := Try.underlying177,
  a53 := Try.isAgg177,
  z53 := Try.sizeOf177,
  v53 := Try.zeroValue177,
  t131 := Try.underlying98,
  a131 := Try.isAgg98,
  z131 := Try.sizeOf98,
  v131 := Try.zeroValue98,
  t182 := Try.underlying232,
  a182 := Try.isAgg232,
  z182 := Try.sizeOf232,
  v182 := Try.zeroValue232,
  t183 := Try.underlying233,
  a183 := Try.isAgg233,
  z183 := Try.sizeOf233,
  v183 := Try.zeroValue233,
  t218 := Try.underlying250,
  a218 := Try.isAgg250,
  z218 := Try.sizeOf250,
  v218 := Try.zeroValue250,
  t222 := Try.underlying254,
  a222 := Try.isAgg254,
  z222 := Try.sizeOf254,
  v222 := Try.zeroValue254,
  t228 := Try.underlying265,
  a228 := Try.isAgg265,
  z228 := Try.sizeOf265,
  v228 := Try.zeroValue265,
  t229 := Try.underlying266,
  a229 := Try.isAgg266,
  z229 := Try.sizeOf266,
  v229 := Try.zeroValue266 }
def laysCompact_ren : Go.Shelf.Ren := ⟨fun | 194 => 86 | n => n, fun | 31 => 52 | 9 => 9 | 3 => 3 | 4 => 4 | 0 => 0 | n => n, fun | n => n⟩
theorem laysCompact : Go.Proofs.Lays.n194 Try.prog laysCompact_ren := {
  mixed := by kernel_rfl,
  f194 := Try.func86.trans (congrArg some (by kernel_rfl)),
  t0 := Try.underlying0,
  a0 := Try.isAgg0,
  z0 := Try.sizeOf0,
  v0 := Try.zeroValue0,
  t3 := Try.underlying3,
  a3 := Try.isAgg3,
  z3 := Try.sizeOf3,
  v3 := Try.zeroValue3,
  t4 := Try.underlying4,
  a4 := Try.isAgg4,
  z4 := Try.sizeOf4,
  v4 := Try.zeroValue4,
  t9 := Try.underlying9,
  a9 := Try.isAgg9,
  z9 := Try.sizeOf9,
  v9 := Try.zeroValue9,
  t31 := Try.underlying52,
  a31 := Try.isAgg52,
  z31 := Try.sizeOf52,
  v31 := Try.zeroValue52 }
def laysClone_ren : Go.Shelf.Ren := ⟨fun | 5 => 83 | 7 => 114 | n => n, fun | 23 => 115 | 25 => 9 | 3 => 119 | 4 => 4 | 20 => 20 | n => n, fun | n => n⟩
theorem laysClone : Go.Proofs.SlLaysW.n5 Try.prog laysClone_ren := {
  mixed := by kernel_rfl,
  f5 := ⟨Try.f83.name, by decide, Try.func83.trans (congrArg some (by kernel_rfl))⟩,
  f7 := Try.func114.trans (congrArg some (by kernel_rfl)),
  t4 := Try.underlying4,
  a4 := Try.isAgg4,
  z4 := Try.sizeOf4,
  v4 := Try.zeroValue4,
  t20 := Try.underlying20,
  a20 := Try.isAgg20,
  z20 := Try.sizeOf20,
  v20 := Try.zeroValue20,
  t23 := Try.underlying115,
  a23 := Try.isAgg115,
  z23 := Try.sizeOf115,
  v23 := Try.zeroValue115 }
theorem clone_ok (Hs : HS) {id : Nat} {es : List (List UInt8 × DV)} (hm : Hs.maps[id]? = some (.map es)) : ACalls Try.prog 83 [.map id] Hs (Ret (.map Hs.nm) (Hs.pushM (.map es))) := mclone_av laysClone hm
theorem ssort_ok {Hs : HS} {e : TypeId} {v : AV} {ss : List (List UInt8)} (h : TX Hs e v ss) (hm : ss.length < 4611686018427387904) : ACalls Try.prog 85 [v] Hs (fun av H' => av = .tup [] ∧ TX H' e v (sortS ss) ∧ Kept Hs H' v) := h.sort laysSort hm
theorem scomp_ok {Hs : HS} {e : TypeId} {v : AV} {ss : List (List UInt8)} (h : TX Hs e v ss) (hm : ss.length ≤ 9223372036854775807) : ACalls Try.prog 86 [v] Hs (fun av H' => TX H' e av (compS ss) ∧ Kept Hs H' v ∧ ∀ id n cap, av = .arr id n cap → ∃ n' cap', v = .arr id n' cap') := h.compact laysCompact hm (compS_len ss)
theorem repP0 (m : Mem) : RepD m (.agg #[.string ByteArray.empty, .string ByteArray.empty, .string ByteArray.empty, .int .i64 0, .int .i64 0, .string ByteArray.empty]) (.agg (pC P0)) := by
  refine .agg _ _ rfl (pC_one P0) fun i hi => ?_
  match i, hi with
  | 0, _ => exact .v _ rfl
  | 1, _ => exact .v _ rfl
  | 2, _ => exact .v _ rfl
  | 3, _ => exact .v _ rfl
  | 4, _ => exact .v _ rfl
  | 5, _ => exact .v _ rfl
set_option maxHeartbeats 4000000 in
set_option maxRecDepth 100000 in
theorem turn_ok (Hs : HS) (a : Nat) (ps : List (List UInt8 × Pl)) (c : Cm) (hm : Hs.maps[a]? = some (.map (mE ps))) (hno : NoIt Hs) (hl : c.ws.length ≤ 1000000) (hk : ∀ w ∈ c.ws, w.key.length ≤ 1099511627776) : ACalls Try.prog 52 [.map a, .d (cD c)] Hs (fun av H' => ∃ m, H' = Hs.pushM m ∧ ((turnT ps [] c.ws = none ∧ (∃ q, m = .map q) ∧ av = .tup [.d (.v (.map none)), .d (.lst 1 []), .d (I 14)]) ∨ ∃ ps' ids, turnT ps [] c.ws = some (ps', ids) ∧ m = .map (mE ps') ∧ av = .tup [.map Hs.nm, .d (.lst 1 ((compS (sortS ids)).map S)), .d (I 0)])) := by
 refine ACalls.tidyM ?_
 refine acalls_of_aw Try.func52 rfl ?_
 refine aw_start (T' := ((.map a) :: (.d (cD c)) :: .un :: .un :: .un :: .un :: .un :: .un :: .un :: .un :: .un :: .un :: .un :: .un :: .un :: .un :: .un :: .un :: .un :: .un :: .un :: .un :: .un :: .un :: .un :: .un :: .un :: .un :: .un :: .un :: .un :: .un :: .un :: .un :: .un :: .un :: .un :: .un :: .un :: .un :: .un :: .un :: .un :: .un :: .un :: .un :: .un :: .un :: .un :: .un :: .un :: .un :: .un :: .un :: .un :: .un :: .un :: .un :: .un :: .un :: .un :: .un :: .un :: .un :: .un :: .un :: .un :: .un :: .un :: [])) rfl ?_
 refine aw_seq ?_
 refine aw_region ?_
 refine zst (op_box_elt (cs := [I c.seq, I c.at_, .lst 3 (c.ws.map wD)]) (by rfl) (by rfl)) rfl (by dsimp only [zS, zN, zH, zT]) ?_
 refine zst (op_assign_const (by rfl)) rfl (by dsimp only [zS, zN, zH, zT]) ?_
 refine zst (op_assign_const (by rfl)) rfl (by dsimp only [zS, zN, zH, zT]) ?_
 refine zst (op_assign_const (by rfl)) rfl (by dsimp only [zS, zN, zH, zT]) ?_
 refine al_end rfl ?_
 refine then_normal ?_
 refine aw_seq ?_
 refine aw_region ?_
 refine zst (op_move_tmp (by rfl)) rfl (by dsimp only [zS, zN, zH, zT]) ?_
 refine zst (op_callF Try.func83 (by rfl) (by rfl) (.tmp (by rfl) .nil) (clone_ok _ hm)) rfl (by dsimp only [zS, zN, zH, zT]) ?_
 refine zst (op_assign_tmp (by rfl)) rfl (by dsimp only [zS, zN, zH, zT]) ?_
 refine al_end rfl ?_
 refine then_normal ?_
 refine aw_seq ?_
 refine aw_region ?_
 refine zst (op_assign_const (by rfl)) rfl (by dsimp only [zS, zN, zH, zT]) ?_
 refine al_end rfl ?_
 refine then_normal ?_
 refine aw_seq ?_
 refine aw_seq ?_
 refine aw_region ?_
 refine zst (by first | exact op_fieldAddr_ptr Try.underlying48 rfl Sz46 (by rfl) (by rfl) | exact op_fieldAddr_elt Try.underlying48 rfl Sz46 (by rfl) (by rfl) (by rfl)) rfl (by dsimp only [zS, zN, zH, zT]) ?_
 refine zst (by first | exact op_load_elt Try.underlying46 (by rfl) (by rfl) (by rfl) | exact op_load_ptr Try.underlying46 (by rfl) (by rfl) (by repeat (first | assumption | exact push_at | exact setB_at push_at | (rw [pushM_blks]) | (rw [setM_blks]) | (rw [setB_ne (by simp only [setB_nb, push_nb, pushM_nb, setM_nb, ne_eq]; omega)]) | apply push_ne | apply setB_at)) (by rfl)) rfl (by dsimp only [zS, zN, zH, zT]) ?_
 refine zst (op_lenL Try.underlying46 (by first | exact LL.d _ _ | exact LL.own _ _ _ | exact LL.nil _ | assumption)) rfl (by dsimp only [zS, zN, zH, zT]) ?_
 refine zst (op_move_const (by rfl)) rfl (by dsimp only [zS, zN, zH, zT]) ?_
 refine al_end rfl ?_
 refine then_normal ?_
 refine aw_block ?_
 apply aw_loopF (fun n T H => ∃ (j : Nat) (ps' : List (List UInt8 × Pl)) (ids : List (List UInt8)) (v : AV), T = (.un :: .un :: .un :: .un :: .un :: .un :: .un :: (.map Hs.nm) :: v :: .un :: .un :: .un :: .un :: .un :: .un :: .un :: .un :: .un :: .un :: (.d (.lst 3 (c.ws.map wD))) :: (.d (I (c.ws.map wD).length)) :: (.d (I j)) :: .un :: .un :: .un :: .un :: .un :: .un :: .un :: .un :: .un :: .un :: .un :: .un :: .un :: .un :: .un :: .un :: .un :: .un :: .un :: .un :: .un :: .un :: .un :: .un :: .un :: .un :: .un :: .un :: .un :: .un :: .un :: .un :: .un :: .un :: .un :: .un :: .un :: .un :: .un :: .un :: .un :: .un :: .un :: .un :: .un :: .un :: .un :: []) ∧ j ≤ c.ws.length ∧ n = c.ws.length - j ∧ turnT ps' ids (c.ws.drop j) = turnT ps [] c.ws ∧ Ext (Hs.pushM (.map (mE ps'))) H ∧ TX H 9 v ids ∧ ids.length ≤ j ∧ (∀ id n cap, v = .arr id n cap → Hs.nb ≤ id)) (c.ws.length) (false :: false :: false :: false :: false :: false :: false :: true :: true :: false :: false :: false :: false :: false :: false :: false :: false :: false :: false :: true :: true :: true :: false :: false :: false :: false :: false :: false :: false :: false :: false :: false :: false :: false :: false :: false :: false :: false :: false :: false :: false :: false :: false :: false :: false :: false :: false :: false :: false :: false :: false :: false :: false :: false :: false :: false :: false :: false :: false :: false :: false :: false :: false :: false :: false :: false :: false :: false :: false :: [])
 · (try dsimp only [maskT]); try exact rfl
 · rfl
 · exact ⟨0, ps, [], _, rfl, by omega, rfl, rfl, Ext.refl _, Arr.nil, by simp, (fun _ _ _ h => by cases h)⟩
 rintro n T H ⟨j, ps', ids, v, rfl, hj, rfl, htt, hx, hT, hil, hv⟩
 have hni := hno.ext hx
 refine aw_seq ?_
 refine aw_region ?_
 refine zst (op_ltI (by rfl) (by rfl)) rfl (by dsimp only [zS, zN, zH, zT]) ?_
 refine al_end rfl ?_
 refine then_normal ?_
 refine aw_seq ?_
 refine aw_cond rfl (fun hc1 => ?_) (fun hc1 => ?_)
 ·
  (try simp only [y1, y2, y3, y4, y5, y6, y7, y8, y9, y0, List.length_map] at hc1)
  (try simp only [List.length_map] at hc1)
  have hlt : j < c.ws.length := by omega
  obtain ⟨w, hw1⟩ : ∃ z0, c.ws[j]? = some z0 := ⟨_, List.getElem?_eq_getElem hlt⟩
  rw [drop_one hw1, turnT] at htt
  refine aw_skip ?_
  refine then_normal ?_
  refine aw_seq ?_
  refine aw_block ?_
  refine aw_seq ?_
  refine aw_region ?_
  refine zst (op_indexAddr (z := wD w) (cs := [S w.key, S w.val, TF w.gone]) Try.underlying46 Sz51 (LL.d _ _) (by rfl) (by omega) (by rw [List.getElem?_map, show ((j : Nat) : Int).toNat = j from rfl, hw1]; rfl) (by rfl)) rfl (by dsimp only [zS, zN, zH, zT]) ?_
  refine zst (op_load_elts (ds := wC w) Try.underlying51 (by rfl) Sz51 (by rfl) (Nat.le_of_ble_eq_true rfl) (by rfl)) rfl (by dsimp only [zS, zN, zH, zT]) ?_
  refine zst (op_alloc (Zr51) (by rfl)) rfl (by dsimp only [zS, zN, zH, zT]) ?_
  refine zst (op_storeB (vs := [.d (S w.key), .d (S w.val), .d (TF w.gone)]) (b' := ⟨51, [.d (S w.key), .d (S w.val), .d (TF w.gone)], false⟩) (H' := _) Sz51 (by rfl) push_at (by intro h; cases h) (by rfl) (by rfl) (Nat.le_of_ble_eq_true rfl) (by simp [AV.one, DV.one, TF, S, I, BY]) (by rfl) (by rfl) rfl) rfl (by dsimp only [zS, zN, zH, zT]) ?_
  refine al_end rfl ?_
  refine then_normal ?_
  refine aw_seq ?_
  refine aw_region ?_
  refine zst (by first | exact op_fieldAddr_ptr Try.underlying51 rfl Sz9 (by rfl) (by rfl) | exact op_fieldAddr_elt Try.underlying51 rfl Sz9 (by rfl) (by rfl) (by rfl)) rfl (by dsimp only [zS, zN, zH, zT]) ?_
  refine zst (op_load_ptr Try.underlying9 (by rfl) (by rfl) (by repeat (first | assumption | exact push_at | exact setB_at push_at | (rw [pushM_blks]) | (rw [setM_blks]) | (rw [setB_ne (by simp only [setB_nb, push_nb, pushM_nb, setM_nb, ne_eq]; omega)]) | apply push_ne | apply setB_at)) (by rfl)) rfl (by dsimp only [zS, zN, zH, zT]) ?_
  refine zst (op_callF Try.func84 (by rfl) (by rfl) (.tmp (by rfl) .nil) (msg_ok _ w.key (hk w (List.mem_of_getElem? hw1)))) rfl (by dsimp only [zS, zN, zH, zT]) ?_
  refine zst (op_move_tmp (by rfl)) rfl (by dsimp only [zS, zN, zH, zT]) ?_
  refine zst (op_extract (by rfl) (by rfl)) rfl (by dsimp only [zS, zN, zH, zT]) ?_
  refine zst (op_extract (by rfl) (by rfl)) rfl (by dsimp only [zS, zN, zH, zT]) ?_
  refine zst (op_extract (by rfl) (by rfl)) rfl (by dsimp only [zS, zN, zH, zT]) ?_
  refine zst (op_assign_tmp (by rfl)) rfl (by dsimp only [zS, zN, zH, zT]) ?_
  refine zst (op_assign_tmp (by rfl)) rfl (by dsimp only [zS, zN, zH, zT]) ?_
  refine zst (op_assign_tmp (by rfl)) rfl (by dsimp only [zS, zN, zH, zT]) ?_
  refine al_end rfl ?_
  refine then_normal ?_
  refine aw_seq ?_
  refine aw_seq ?_
  refine aw_region ?_
  refine zst (op_move_tmp (by rfl)) rfl (by dsimp only [zS, zN, zH, zT]) ?_
  refine zst (op_not (by rfl)) rfl (by dsimp only [zS, zN, zH, zT]) ?_
  refine al_end rfl ?_
  refine then_normal ?_
  refine aw_cond rfl (fun hc2 => ?_) (fun hc2 => ?_)
  ·
   (try simp only [y1, y2, y3, y4, y5, y6, y7, y8, y9, y0, List.length_map] at hc2)
   have hm1 : (msgT w.key).2.2 = false := by simpa using hc2
   rw [if_pos hm1] at htt
   refine aw_exit ?_
   refine then_exit (inBlock_here (then_normal ?_))
   refine aw_region ?_
   refine zst (by first | exact op_add (by rfl) (by rfl) (wrap_i64 ⟨by omega, by omega⟩) | exact op_add (by rfl) (by rfl) (by rfl)) rfl (by dsimp only [zS, zN, zH, zT]) ?_
   refine zst (op_move_tmp (by rfl)) rfl (by dsimp only [zS, zN, zH, zT]) ?_
   refine al_end rfl ?_
   apply again_to (c.ws.length - (j + 1)) (false :: false :: false :: false :: false :: false :: false :: true :: true :: false :: false :: false :: false :: false :: false :: false :: false :: false :: false :: true :: true :: true :: false :: false :: false :: false :: false :: false :: false :: false :: false :: false :: false :: false :: false :: false :: false :: false :: false :: false :: false :: false :: false :: false :: false :: false :: false :: false :: false :: false :: false :: false :: false :: false :: false :: false :: false :: false :: false :: false :: false :: false :: false :: false :: false :: false :: false :: false :: false :: [])
   · (try dsimp only [maskT]); try exact rfl
   · rfl
   · omega
   exact ⟨j + 1, _, _, _, rfl, by omega, rfl, htt, ((hx.push _ _).setB (nb_le hx)), ((hT.push _ _).setB (fun i n c h => Nat.ne_of_lt (hT.lt i n c h))), by omega, hv⟩
  ·
   (try simp only [y1, y2, y3, y4, y5, y6, y7, y8, y9, y0, List.length_map] at hc2)
   have hm1 : (msgT w.key).2.2 = true := by simpa using hc2
   rw [if_neg (by rw [hm1]; decide)] at htt
   refine aw_skip ?_
   refine then_normal ?_
   refine aw_seq ?_
   refine aw_region ?_
   refine zst (op_move_tmp (by rfl)) rfl (by dsimp only [zS, zN, zH, zT]) ?_
   refine zst (op_move_tmp (by rfl)) rfl (by dsimp only [zS, zN, zH, zT]) ?_
   refine zst (op_lit Try.underlying52 ZS9 (.cons (by rfl) (.nil _)) (by rfl) (by simp [BY, S, I, TF, DV.cells]) (by simp [flat, BY, S, I, TF, DV.cells, DV.one]) (by decide)) rfl (by dsimp only [zS, zN, zH, zT]) ?_
   refine al_cons _ (op_append_arr Try.underlying52 Inf9 (by rfl) ((hT.push _ _).setB (fun i n c h => Nat.ne_of_lt (hT.lt i n c h))) (.list _ _ _ _ Try.underlying52 (LL.own _ _ _)) (by simp) (by simp; omega) (by simp; omega)) rfl ?_
   rintro v3 H3 ⟨hA, hK, id3, m3, cap3, rfl, hn3, ho3⟩
   apply al_normT
   · (try dsimp only [putT, List.set_cons_zero, List.set_cons_succ]); try exact rfl
   have hK := show Kept (HS.setB (HS.push H _ _) _ _) H3 v from hK
   have hn3 := show v = nilS → _ from hn3
   have ho3 := show ∀ j n cap, v = .arr j n cap → _ from ho3
   have hT3 : TX H3 9 (.arr id3 m3 cap3) (ids ++ [(msgT w.key).2.1]) := TX.one hA rfl
   have hx3 : Ext (Hs.pushM (.map (mE ps'))) H3 := hK.ext ((hx.push _ _).setB (nb_le hx)) hv
   have hv3 := hT.grown (B := Hs) (H1 := HS.setB (HS.push H _ _) _ _) (m3 := m3) (cap3 := cap3) hv (by have := nb_le hx; rw [pushM_nb] at this; rw [setB_nb, push_nb]; omega) hn3 ho3
   have hb3 : H3.blks[H.nb]? = some ⟨51, [.d (S w.key), .d (S w.val), .d (TF w.gone)], false⟩ := by rw [hK.blks _ (by rw [setB_nb, push_nb]; omega) (fun n c h => absurd (hT.lt _ _ _ h) (Nat.lt_irrefl _))]; exact setB_at push_at
   have hni3 := hno.ext hx3
   refine zst (op_assign_tmp (by rfl)) rfl (by dsimp only [zS, zN, zH, zT]) ?_
   refine al_end rfl ?_
   refine then_normal ?_
   refine aw_seq ?_
   refine aw_seq ?_
   refine aw_region ?_
   refine zst (by first | exact op_fieldAddr_ptr Try.underlying51 rfl Sz4 (by rfl) (by rfl) | exact op_fieldAddr_elt Try.underlying51 rfl Sz4 (by rfl) (by rfl) (by rfl)) rfl (by dsimp only [zS, zN, zH, zT]) ?_
   refine zst (op_load_ptr Try.underlying4 (by rfl) (by rfl) (by repeat (first | assumption | exact push_at | exact setB_at push_at | (rw [pushM_blks]) | (rw [setM_blks]) | (rw [setB_ne (by simp only [setB_nb, push_nb, pushM_nb, setM_nb, ne_eq]; omega)]) | apply push_ne | apply setB_at)) (by rfl)) rfl (by dsimp only [zS, zN, zH, zT]) ?_
   refine al_end rfl ?_
   refine then_normal ?_
   refine aw_cond rfl (fun hc3 => ?_) (fun hc3 => ?_)
   ·
    (try simp only [y1, y2, y3, y4, y5, y6, y7, y8, y9, y0, List.length_map] at hc3)
    have hg1 : w.gone = true := by simpa using hc3
    rw [if_pos hg1] at htt
    refine aw_seq ?_
    refine aw_seq ?_
    refine aw_region ?_
    refine zst (op_move_tmp (by rfl)) rfl (by dsimp only [zS, zN, zH, zT]) ?_
    refine zst (op_move_tmp (by rfl)) rfl (by dsimp only [zS, zN, zH, zT]) ?_
    refine zst (op_lookup_pl Try.underlying115 Try.underlying9 Zr119 repP0 (by rfl) (by rfl) (pushM_at hx3)) rfl (by dsimp only [zS, zN, zH, zT]) ?_
    refine al_cons _ (op_field1 (d := S (atK ps' (msgT w.key).2.1).q) Try.underlying119 rfl Try.isAgg9 (by rfl) (by rfl)) rfl ?_
    rintro v4 H4 ⟨rfl, rfl⟩
    apply al_normT
    · (try dsimp only [putT, List.set_cons_zero, List.set_cons_succ]); try exact rfl
    refine zst (op_move_tmp (by rfl)) rfl (by dsimp only [zS, zN, zH, zT]) ?_
    refine zst (op_eqS (by rfl) (by rfl)) rfl (by dsimp only [zS, zN, zH, zT]) ?_
    refine al_end rfl ?_
    refine then_normal ?_
    refine aw_cond rfl (fun hc4 => ?_) (fun hc4 => ?_)
    ·
     (try simp only [y1, y2, y3, y4, y5, y6, y7, y8, y9, y0, List.length_map] at hc4)
     have hq1 : (atK ps' (msgT w.key).2.1).q = (msgT w.key).1 := by simpa using hc4
     rw [if_pos hq1] at htt
     refine aw_region ?_
     refine zst (op_move_tmp (by rfl)) rfl (by dsimp only [zS, zN, zH, zT]) ?_
     refine zst (op_move_tmp (by rfl)) rfl (by dsimp only [zS, zN, zH, zT]) ?_
     refine zst (op_delete Try.underlying115 Try.underlying9 (by rfl) (by rfl) (pushM_at hx3) (fun j n q => hni3 j _ n q)) rfl (by dsimp only [zS, zN, zH, zT]) ?_
     refine al_end rfl ?_
     refine then_normal ?_
     refine aw_exit ?_
     refine then_exit (inBlock_here (then_normal ?_))
     refine aw_region ?_
     refine zst (by first | exact op_add (by rfl) (by rfl) (wrap_i64 ⟨by omega, by omega⟩) | exact op_add (by rfl) (by rfl) (by rfl)) rfl (by dsimp only [zS, zN, zH, zT]) ?_
     refine zst (op_move_tmp (by rfl)) rfl (by dsimp only [zS, zN, zH, zT]) ?_
     refine al_end rfl ?_
     apply again_to (c.ws.length - (j + 1)) (false :: false :: false :: false :: false :: false :: false :: true :: true :: false :: false :: false :: false :: false :: false :: false :: false :: false :: false :: true :: true :: true :: false :: false :: false :: false :: false :: false :: false :: false :: false :: false :: false :: false :: false :: false :: false :: false :: false :: false :: false :: false :: false :: false :: false :: false :: false :: false :: false :: false :: false :: false :: false :: false :: false :: false :: false :: false :: false :: false :: false :: false :: false :: false :: false :: false :: false :: false :: false :: [])
     · (try dsimp only [maskT]); try exact rfl
     · rfl
     · omega
     exact ⟨j + 1, _, _, _, rfl, by omega, rfl, htt, by rw [← delE_mE]; exact hx3.setM, hT3.setM, by simp; omega, hv3⟩
    ·
     (try simp only [y1, y2, y3, y4, y5, y6, y7, y8, y9, y0, List.length_map] at hc4)
     have hq1 : ¬ (atK ps' (msgT w.key).2.1).q = (msgT w.key).1 := by simpa using hc4
     rw [if_neg hq1] at htt
     refine aw_skip ?_
     refine then_normal ?_
     refine aw_exit ?_
     refine then_exit (inBlock_here (then_normal ?_))
     refine aw_region ?_
     refine zst (by first | exact op_add (by rfl) (by rfl) (wrap_i64 ⟨by omega, by omega⟩) | exact op_add (by rfl) (by rfl) (by rfl)) rfl (by dsimp only [zS, zN, zH, zT]) ?_
     refine zst (op_move_tmp (by rfl)) rfl (by dsimp only [zS, zN, zH, zT]) ?_
     refine al_end rfl ?_
     apply again_to (c.ws.length - (j + 1)) (false :: false :: false :: false :: false :: false :: false :: true :: true :: false :: false :: false :: false :: false :: false :: false :: false :: false :: false :: true :: true :: true :: false :: false :: false :: false :: false :: false :: false :: false :: false :: false :: false :: false :: false :: false :: false :: false :: false :: false :: false :: false :: false :: false :: false :: false :: false :: false :: false :: false :: false :: false :: false :: false :: false :: false :: false :: false :: false :: false :: false :: false :: false :: false :: false :: false :: false :: false :: false :: [])
     · (try dsimp only [maskT]); try exact rfl
     · rfl
     · omega
     exact ⟨j + 1, _, _, _, rfl, by omega, rfl, htt, hx3, hT3, by simp; omega, hv3⟩
   ·
    (try simp only [y1, y2, y3, y4, y5, y6, y7, y8, y9, y0, List.length_map] at hc3)
    have hg1 : w.gone = false := by simpa using hc3
    rw [if_neg (by rw [hg1]; decide)] at htt
    refine aw_skip ?_
    refine then_normal ?_
    refine aw_seq ?_
    refine aw_region ?_
    refine zst (op_move_tmp (by rfl)) rfl (by dsimp only [zS, zN, zH, zT]) ?_
    refine zst (by first | exact op_fieldAddr_ptr Try.underlying51 rfl Sz9 (by rfl) (by rfl) | exact op_fieldAddr_elt Try.underlying51 rfl Sz9 (by rfl) (by rfl) (by rfl)) rfl (by dsimp only [zS, zN, zH, zT]) ?_
    refine zst (op_load_ptr Try.underlying9 (by rfl) (by rfl) (by repeat (first | assumption | exact push_at | exact setB_at push_at | (rw [pushM_blks]) | (rw [setM_blks]) | (rw [setB_ne (by simp only [setB_nb, push_nb, pushM_nb, setM_nb, ne_eq]; omega)]) | apply push_ne | apply setB_at)) (by rfl)) rfl (by dsimp only [zS, zN, zH, zT]) ?_
    refine zst (op_callF Try.func22 (by rfl) (by rfl) (.tmp (by rfl) (.tmp (by rfl) .nil)) (mdec_ok _ (msgT w.key).2.1 w.val)) rfl (by dsimp only [zS, zN, zH, zT]) ?_
    refine zst (op_move_tmp (by rfl)) rfl (by dsimp only [zS, zN, zH, zT]) ?_
    refine zst (op_extract (by rfl) (by rfl)) rfl (by dsimp only [zS, zN, zH, zT]) ?_
    refine zst (op_extract (by rfl) (by rfl)) rfl (by dsimp only [zS, zN, zH, zT]) ?_
    refine zst (op_alloc (Zr58) (by rfl)) rfl (by dsimp only [zS, zN, zH, zT]) ?_
    refine zst (op_storeB (vs := [.d (S (decM (msgT w.key).2.1 w.val).id), .d (S (decM (msgT w.key).2.1 w.val).body), .d (I (decM (msgT w.key).2.1 w.val).ready), .d (I (decM (msgT w.key).2.1 w.val).count), .d (S (decM (msgT w.key).2.1 w.val).token)]) (b' := ⟨58, [.d (S (decM (msgT w.key).2.1 w.val).id), .d (S (decM (msgT w.key).2.1 w.val).body), .d (I (decM (msgT w.key).2.1 w.val).ready), .d (I (decM (msgT w.key).2.1 w.val).count), .d (S (decM (msgT w.key).2.1 w.val).token)], false⟩) (H' := _) Sz58 (by rfl) push_at (by intro h; cases h) (by rfl) (by rfl) (Nat.le_of_ble_eq_true rfl) (by simp [AV.one, DV.one, TF, S, I, BY]) (by rfl) (by rfl) rfl) rfl (by dsimp only [zS, zN, zH, zT]) ?_
    refine zst (op_assign_tmp (by rfl)) rfl (by dsimp only [zS, zN, zH, zT]) ?_
    refine al_end rfl ?_
    refine then_normal ?_
    refine aw_seq ?_
    refine aw_seq ?_
    refine aw_region ?_
    refine zst (op_move_tmp (by rfl)) rfl (by dsimp only [zS, zN, zH, zT]) ?_
    refine zst (op_neI (by rfl) (by rfl)) rfl (by dsimp only [zS, zN, zH, zT]) ?_
    refine al_end rfl ?_
    refine then_normal ?_
    refine aw_cond rfl (fun hc5 => ?_) (fun hc5 => ?_)
    ·
     (try simp only [y1, y2, y3, y4, y5, y6, y7, y8, y9, y0, List.length_map] at hc5)
     have he1 : ¬ decE w.val = 0 := hc5
     rw [if_neg he1] at htt
     refine aw_seq ?_
     refine aw_region ?_
     refine zst (op_move_tmp (by rfl)) rfl (by dsimp only [zS, zN, zH, zT]) ?_
     refine zst (op_assign_const (by rfl)) rfl (by dsimp only [zS, zN, zH, zT]) ?_
     refine zst (op_assign_const (by rfl)) rfl (by dsimp only [zS, zN, zH, zT]) ?_
     refine zst (op_assign_tmp (by rfl)) rfl (by dsimp only [zS, zN, zH, zT]) ?_
     refine al_end rfl ?_
     refine then_normal ?_
     refine aw_ret ?_
     refine then_ret (inBlock_ret (then_ret (again_ret (inBlock_ret (then_ret ?_)))))
     refine retPost3 rfl rfl rfl rfl ?_
     exact ⟨_, _, _, [], _, rfl, ((hx3.push _ _).setB (nb_le hx3)), .inr ⟨_, rfl⟩, .inl ⟨rfl, rfl⟩, _, rfl, .inl ⟨htt.symm, ⟨_, rfl⟩, by rw [decE_14 he1]; rfl⟩⟩
    ·
     (try simp only [y1, y2, y3, y4, y5, y6, y7, y8, y9, y0, List.length_map] at hc5)
     have he1 : decE w.val = 0 := by simpa using hc5
     rw [if_pos he1] at htt
     refine aw_skip ?_
     refine then_normal ?_
     refine aw_region ?_
     refine zst (op_move_tmp (by rfl)) rfl (by dsimp only [zS, zN, zH, zT]) ?_
     refine zst (op_move_tmp (by rfl)) rfl (by dsimp only [zS, zN, zH, zT]) ?_
     refine zst (op_move_tmp (by rfl)) rfl (by dsimp only [zS, zN, zH, zT]) ?_
     refine zst (op_load_ptrsD (mC (decM (msgT w.key).2.1 w.val)) Try.underlying58 (by rfl) Sz58 (by rfl) (by repeat (first | assumption | exact push_at | exact setB_at push_at | (rw [pushM_blks]) | (rw [setM_blks]) | (rw [setB_ne (by simp only [setB_nb, push_nb, pushM_nb, setM_nb, ne_eq]; omega)]) | apply push_ne | apply setB_at)) (Nat.le_of_ble_eq_true rfl) (by rfl) (mC_one _)) rfl (by dsimp only [zS, zN, zH, zT]) ?_
     refine zst (op_buildD (pl := [(0, 1), (1, 5)]) (pC ⟨(msgT w.key).1, (decM (msgT w.key).2.1 w.val)⟩) Try.underlying119 Zr119 (by kernel_rfl) (by rfl) (by rfl) (by rfl) (pC_one _)) rfl (by dsimp only [zS, zN, zH, zT]) ?_
     refine zst (op_mapUpdate Try.underlying115 Try.underlying9 (by rfl) (by rfl) (Weak.refl _) (pushM_at ((hx3.push _ _).setB (nb_le hx3))) (fun j n q => (hno.ext ((hx3.push _ _).setB (nb_le hx3))) j _ n q)) rfl (by dsimp only [zS, zN, zH, zT]) ?_
     refine al_end rfl ?_
     refine inBlock_normal (then_normal ?_)
     refine aw_region ?_
     refine zst (by first | exact op_add (by rfl) (by rfl) (wrap_i64 ⟨by omega, by omega⟩) | exact op_add (by rfl) (by rfl) (by rfl)) rfl (by dsimp only [zS, zN, zH, zT]) ?_
     refine zst (op_move_tmp (by rfl)) rfl (by dsimp only [zS, zN, zH, zT]) ?_
     refine al_end rfl ?_
     apply again_to (c.ws.length - (j + 1)) (false :: false :: false :: false :: false :: false :: false :: true :: true :: false :: false :: false :: false :: false :: false :: false :: false :: false :: false :: true :: true :: true :: false :: false :: false :: false :: false :: false :: false :: false :: false :: false :: false :: false :: false :: false :: false :: false :: false :: false :: false :: false :: false :: false :: false :: false :: false :: false :: false :: false :: false :: false :: false :: false :: false :: false :: false :: false :: false :: false :: false :: false :: false :: false :: false :: false :: false :: false :: false :: [])
     · (try dsimp only [maskT]); try exact rfl
     · rfl
     · omega
     exact ⟨j + 1, _, _, _, rfl, by omega, rfl, htt, by rw [← putE_mE]; exact ((hx3.push _ _).setB (nb_le hx3)).setM, ((hT3.push _ _).setB (fun i n c h => Nat.ne_of_lt (hT3.lt i n c h))).setM, by simp; omega, hv3⟩
 ·
  (try simp only [y1, y2, y3, y4, y5, y6, y7, y8, y9, y0, List.length_map] at hc1)
  (try simp only [List.length_map] at hc1)
  have hje : j = c.ws.length := by omega
  subst hje
  rw [List.drop_length, turnT] at htt
  refine aw_exit ?_
  refine then_exit (again_exit (inBlock_here (then_normal ?_)))
  refine aw_seq ?_
  refine aw_region ?_
  refine zst (op_move_tmp (by rfl)) rfl (by dsimp only [zS, zN, zH, zT]) ?_
  refine al_cons _ (op_callF Try.func85 (by rfl) (by rfl) (.tmp (by rfl) .nil) (ssort_ok hT (by omega))) rfl ?_
  rintro v3 H3 ⟨rfl, hT3, hK3⟩
  apply al_normT
  · (try dsimp only [putT, List.set_cons_zero, List.set_cons_succ]); try exact rfl
  refine al_end rfl ?_
  refine then_normal ?_
  refine aw_seq ?_
  refine aw_region ?_
  refine zst (op_move_tmp (by rfl)) rfl (by dsimp only [zS, zN, zH, zT]) ?_
  refine zst (op_move_tmp (by rfl)) rfl (by dsimp only [zS, zN, zH, zT]) ?_
  refine al_cons _ (op_callF Try.func86 (by rfl) (by rfl) (.tmp (by rfl) .nil) (scomp_ok hT3 (by rw [sortS_len]; omega))) rfl ?_
  rintro v4 H4 ⟨hT4, hK4, hv4⟩
  apply al_normT
  · (try dsimp only [putT, List.set_cons_zero, List.set_cons_succ]); try exact rfl
  refine zst (op_assign_tmp (by rfl)) rfl (by dsimp only [zS, zN, zH, zT]) ?_
  refine zst (op_assign_tmp (by rfl)) rfl (by dsimp only [zS, zN, zH, zT]) ?_
  refine zst (op_assign_const (by rfl)) rfl (by dsimp only [zS, zN, zH, zT]) ?_
  refine al_end rfl ?_
  refine then_normal ?_
  refine aw_ret ?_
  refine retPost3 rfl rfl rfl rfl ?_
  exact ⟨_, _, _, compS (sortS ids), _, rfl, hK4.ext (hK3.ext hx hv) hv, .inl rfl, hT4.fin (fun i n c h => by obtain ⟨n2, c2, h2⟩ := hv4 i n c h; exact hv _ _ _ h2), _, rfl, .inr ⟨_, _, htt.symm, rfl, rfl⟩⟩
end Go.Proofs.Ytjbpfnoibeogbaa
namespace Go.AV
def HS.addM (H : HS) (ms : List MB) : HS := { H with maps := H.maps ++ ms }
theorem addM_nil (H : HS) : H.addM [] = H := by cases H; simp [HS.addM]
theorem Ext.pushAdd {Hs H : HS} {ms : List MB} {m : MB} (h : Ext (Hs.addM ms) H) : Ext (Hs.addM (ms ++ [m])) (H.pushM m) :=
  ⟨h.blks, h.toks, by
    show H.maps ++ [m] = Hs.maps ++ (ms ++ [m])
    rw [h.maps]
    show (Hs.maps ++ ms) ++ [m] = _
    rw [List.append_assoc]⟩
theorem NoIt.of {H H' : HS} (h : NoIt H) (e : H'.maps = H.maps) : NoIt H' := fun j o n q => by rw [e]; exact h j o n q
theorem NoIt.push {H : HS} (h : NoIt H) (es : List (List UInt8 × DV)) : NoIt (H.pushM (.map es)) := h.ext (Ext.refl _)
theorem pushM_new {H : HS} {m : MB} : (H.pushM m).maps[H.nm]? = some m := pushM_at (Ext.refl _)
theorem pushM_old {H : HS} {m x : MB} {a : Nat} (h : H.maps[a]? = some x) : (H.pushM m).maps[a]? = some x := by
  show (H.maps ++ [m])[a]? = _
  rw [List.getElem?_append_left (List.getElem?_eq_some_iff.1 h).1]; exact h
theorem ACalls.tidyA {P : Program} {f : FuncId} {args : List AV} {H : HS} {R : AV → HS → Prop}
    (h : ACalls P f args H fun av H' => ∃ ms, Fits H.blks.length H.toks.length av ∧ Ext (H.addM ms) H' ∧ R av (H.addM ms)) : ACalls P f args H R :=
  ACalls.tidyB (h.mono fun av H' ⟨ms, h1, h2, h3⟩ => ⟨H.addM ms, h1, rfl, rfl, fun _ _ hb _ _ => .inl hb, h2, h3⟩)
namespace Hist
open Go.AV.Ord Go.AV.Oct
theorem turnT_len : ∀ (ws : List Wt) {ps ps' : List (List UInt8 × Pl)} {ids ids' : List (List UInt8)}, turnT ps ids ws = some (ps', ids') → ids'.length ≤ ids.length + ws.length
  | [], _, _, _, _, h => by simp [turnT] at h; rw [h.2]; exact Nat.le_add_right _ _
  | w :: ws, ps, ps', ids, ids', h => by
    rw [turnT] at h
    split at h
    · have := turnT_len ws h; simp; omega
    · split at h
      · have := turnT_len ws h; simp at this ⊢; omega
      · split at h
        · have := turnT_len ws h; simp at this ⊢; omega
        · cases h
def evOf (c : Cm) (ps ps' : List (List UInt8 × Pl)) (id : List UInt8) : Ev := ⟨c.seq, c.at_, id, (atK ps id).q, (atK ps' id).q, (atK ps id).m, (atK ps' id).m⟩
def evs (c : Cm) (ps ps' : List (List UInt8 × Pl)) (ids : List (List UInt8)) : List Ev := (ids.filter fun id => !decide (atK ps id = atK ps' id)).map (evOf c ps ps')
theorem evs_nil (c : Cm) (ps ps' : List (List UInt8 × Pl)) : evs c ps ps' [] = [] := rfl
theorem evs_same {c : Cm} {ps ps' : List (List UInt8 × Pl)} {ids : List (List UInt8)} {id : List UInt8} (h : atK ps id = atK ps' id) : evs c ps ps' (ids ++ [id]) = evs c ps ps' ids := by
  simp [evs, List.filter_append, h]
theorem evs_more {c : Cm} {ps ps' : List (List UInt8 × Pl)} {ids : List (List UInt8)} {id : List UInt8} (h : ¬ atK ps id = atK ps' id) : evs c ps ps' (ids ++ [id]) = evs c ps ps' ids ++ [evOf c ps ps' id] := by
  simp [evs, List.filter_append, h]
theorem evs_len (c : Cm) (ps ps' : List (List UInt8 × Pl)) (ids : List (List UInt8)) : (evs c ps ps' ids).length ≤ ids.length := by
  unfold evs
  rw [List.length_map]
  exact List.length_filter_le _ _
def eventsT : List (List UInt8 × Pl) → List Ev → List Cm → Option (List Ev)
  | _, es, [] => some es
  | ps, es, c :: cs => match turnT ps [] c.ws with
    | none => none
    | some (ps', ids) => eventsT ps' (es ++ evs c ps ps' (compS (sortS ids))) cs
theorem eventsT_none {ps : List (List UInt8 × Pl)} {es : List Ev} {c : Cm} {cs : List Cm} (h : turnT ps [] c.ws = none) : eventsT ps es (c :: cs) = none := by rw [eventsT, h]
theorem eventsT_some {ps ps' : List (List UInt8 × Pl)} {es : List Ev} {c : Cm} {cs : List Cm} {ids : List (List UInt8)} (h : turnT ps [] c.ws = some (ps', ids)) : eventsT ps es (c :: cs) = eventsT ps' (es ++ evs c ps ps' (compS (sortS ids))) cs := by rw [eventsT, h]
theorem app_more {t : Option Nat} {l l' : List Ev} {e : Ev} (h : l' = l ++ [e]) : App (.own t 15 (l.map eD ++ [eD e])) t 15 (l'.map eD) := by
  subst h; rw [List.map_append]; exact App.own _ _ _
theorem _root_.Go.AV.Ext.upM {Hs H : HS} {ms : List MB} {t : Option Nat} {n m : Nat} (h : Ext (Hs.addM ms) H) (hn : NewTok Hs t) (hok : H.ok t m) : Ext (Hs.addM ms) (H.up t n) ∧ NewTok Hs (some (H.tk t)) := h.upN hn hok
def zE : List AV := [.d (I 0), .d (I 0), .d (S []), .d (S []), .d (S []), .d (S []), .d (S []), .d (I 0), .d (I 0), .d (S []), .d (S []), .d (S []), .d (I 0), .d (I 0), .d (S [])]
def psE (e : Ev) : List (Nat × List AV) := [(0, [.d (I e.seq)]), (1, [.d (I e.at_)]), (2, [.d (S e.id)]), (3, [.d (S e.fr)]), (4, [.d (S e.to)]), (5, (mC e.old).map .d), (6, (mC e.new).map .d)]
def plE : List (Nat × Nat) := [(0, 1), (1, 1), (2, 1), (3, 1), (4, 1), (5, 5), (10, 5)]
theorem fill_ev (e : Ev) : fillA (fun i => plE[i]?) zE (psE e) = some ((eC e).map .d) := by
  simp [fillA, putL, plE, zE, psE, mC, eC]
section
variable {P : Program} {E : Operand → AV} {H : HS} {dst : Option Tmp} {ty : TypeId} {pos : String} {after : Array Edge} {gd : Option (Nat × Bool)}
theorem op_buildEv {t : TypeId} {parts : Array (Nat × Operand)} {fs : Array Field} {z : Value} {ps : List (Nat × List AV)} (e : Ev) (ht : P.underlying t = some (.struct fs)) (hz : (P.info? t).map (·.zero) = some (some z)) (hpl : places P fs.toList = some plE)
    (hz2 : z.cells.toList.map constAV = zE) (hk : parts.toList.all (fun p => (E p.2).known) = true) (hps : parts.toList.map (fun p => (p.1, (E p.2).cells)) = ps) (hps2 : ps = psE e) :
    OpR P ⟨dst, .build t parts, ty, pos, after, gd⟩ E H (Ret (.d (eD e)) H) := by
  subst hps2
  exact op_buildD (eC e) ht hz hpl hk hps (by rw [hz2]; exact fill_ev e) (eC_one e)
end
def msT : List (List UInt8 × Pl) → List Cm → List MB
  | _, [] => []
  | ps, c :: cs => match turnT ps [] c.ws with
    | none => []
    | some (ps', _) => .map (mE ps') :: msT ps' cs
theorem msT_some {ps ps' : List (List UInt8 × Pl)} {c : Cm} {cs : List Cm} {ids : List (List UInt8)} (h : turnT ps [] c.ws = some (ps', ids)) : msT ps (c :: cs) = .map (mE ps') :: msT ps' cs := by rw [msT, h]
theorem lit_e (e : Ev) : ∀ y ∈ [eD e], y.cells.length = 15 := by
  intro y hy; rcases List.mem_singleton.1 hy with rfl; rfl
theorem lit_e1 (e : Ev) : ∀ d ∈ flat [eD e], d.one = true := by
  intro d hd; simp only [flat, List.flatMap_cons, List.flatMap_nil, List.append_nil] at hd; exact eC_one e d hd
end Hist
end Go.AV
