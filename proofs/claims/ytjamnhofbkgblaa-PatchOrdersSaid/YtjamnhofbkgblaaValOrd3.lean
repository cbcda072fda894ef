/-
  The order of values as the law lays it down, part by part.
-/
import Derived.Test.YtjamnhofbkgblaaValOrd2
namespace Go.AV.Val
open Go.AV.Ord Go.AV.Oct
def lessI (b : Bool) : Int := if b then -1 else 1
theorem cmpI_less {a b : Int} (h : ¬ a = b) : cmpI a b = lessI (decide (a < b)) := by
  unfold cmpI lessI
  by_cases h1 : a < b
  · simp [h1]
  · simp [h1, show b < a by omega]
theorem cb_ne {a b : List UInt8} (h : ¬ a = b) : Lib.compareBytes a b = lessI (Go.Op.bytesLess a b) := by
  rw [cb_byL]
  unfold byL lessI
  cases hl : Go.Op.bytesLess a b <;> simp [h]
theorem only_parts {k : Int} {y : Bool} {i : Int} {tx : List UInt8} {ls : List V} {fs : List F} (h : onlyV (.mk k y i tx ls fs) = true) : (k ≠ 1 → y = false) ∧ (k ≠ 2 → i = 0) ∧ (k ≠ 3 → tx = []) ∧ (k ≠ 4 → ls = []) ∧ (k ≠ 5 → fs = []) := by
  simp only [onlyV, V.kind, V.yes, V.num, V.text, V.list, V.fields, Bool.and_eq_true, Bool.or_eq_true, beq_iff_eq, List.isEmpty_iff] at h
  obtain ⟨⟨⟨⟨⟨⟨_, _⟩, h1⟩, h2⟩, h3⟩, h4⟩, h5⟩ := h
  exact ⟨fun e => h1.resolve_left e, fun e => h2.resolve_left e, fun e => h3.resolve_left e, fun e => h4.resolve_left e, fun e => h5.resolve_left e⟩
section
variable {k : Int} {y : Bool} {i : Int} {tx : List UInt8} {ls : List V} {fs : List F} {o : V}
theorem cmp_k (h : ¬ k = o.kind) : cmpV (.mk k y i tx ls fs) o = lessI (decide (k < o.kind)) := by
  rw [cmpV_mk, cmpI_less h, if_pos]
  unfold lessI; split <;> simp
theorem cmp_y (ha : onlyV (.mk k y i tx ls fs) = true) (hb : onlyV o = true) (hk : k = o.kind) (hy : ¬ y = o.yes) : cmpV (.mk k y i tx ls fs) o = lessI o.yes := by
  obtain ⟨k', y', i', t', l', f', rfl⟩ : ∃ k y n t l fs, o = .mk k y n t l fs := ⟨_, _, _, _, _, _, o.eta⟩
  simp only [V.kind, V.yes] at hk hy ⊢
  subst hk
  have h1 : k = 1 := by
    by_cases h : k = 1
    · exact h
    · exact absurd (((only_parts ha).1 h).trans ((only_parts hb).1 h).symm) hy
  rw [cmpV_mk]
  simp only [V.kind, V.yes, cmpI_self, h1, if_true]
  cases y <;> cases y' <;> simp_all [cmpI, yesI, lessI]
theorem cmp_n (ha : onlyV (.mk k y i tx ls fs) = true) (hb : onlyV o = true) (hk : k = o.kind) (hi : ¬ i = o.num) : cmpV (.mk k y i tx ls fs) o = lessI (decide (i < o.num)) := by
  obtain ⟨k', y', i', t', l', f', rfl⟩ : ∃ k y n t l fs, o = .mk k y n t l fs := ⟨_, _, _, _, _, _, o.eta⟩
  simp only [V.kind, V.num] at hk hi ⊢
  subst hk
  have h1 : k = 2 := by
    by_cases h : k = 2
    · exact h
    · exact absurd (((only_parts ha).2.1 h).trans ((only_parts hb).2.1 h).symm) hi
  rw [cmpV_mk]
  simp only [V.kind, V.num, cmpI_self, h1, if_true, show ¬ (2 : Int) = 1 by decide, if_false, ne_eq, not_true_eq_false]
  exact cmpI_less hi
theorem cmp_t (ha : onlyV (.mk k y i tx ls fs) = true) (hb : onlyV o = true) (hk : k = o.kind) (ht : ¬ tx = o.text) : cmpV (.mk k y i tx ls fs) o = lessI (Go.Op.bytesLess tx o.text) := by
  obtain ⟨k', y', i', t', l', f', rfl⟩ : ∃ k y n t l fs, o = .mk k y n t l fs := ⟨_, _, _, _, _, _, o.eta⟩
  simp only [V.kind, V.text] at hk ht ⊢
  subst hk
  have h1 : k = 3 := by
    by_cases h : k = 3
    · exact h
    · exact absurd (((only_parts ha).2.2.1 h).trans ((only_parts hb).2.2.1 h).symm) ht
  rw [cmpV_mk]
  simp only [V.kind, V.text, cmpI_self, h1, if_true, show ¬ (3 : Int) = 1 by decide, show ¬ (3 : Int) = 2 by decide, if_false, ne_eq, not_true_eq_false]
  exact cb_ne ht
theorem cmp_lf (ha : onlyV (.mk k y i tx ls fs) = true) (hb : onlyV o = true) (hk : k = o.kind) (hy : y = o.yes) (hi : i = o.num) (ht : tx = o.text) : cmpV (.mk k y i tx ls fs) o = orI (cmpL ls o.list) (cmpF fs o.fields) := by
  obtain ⟨k', y', i', t', l', f', rfl⟩ : ∃ k y n t l fs, o = .mk k y n t l fs := ⟨_, _, _, _, _, _, o.eta⟩
  simp only [V.kind, V.yes, V.num, V.text, V.list, V.fields] at hk hy hi ht ⊢
  subst hk hy hi ht
  have cb0 : Lib.compareBytes tx tx = 0 := cb_eq.2 rfl
  obtain ⟨a1, a2, a3, a4, a5⟩ := only_parts ha
  obtain ⟨b1, b2, b3, b4, b5⟩ := only_parts hb
  rw [cmpV_mk]
  simp only [V.kind, V.yes, V.num, V.text, V.list, V.fields, cmpI_self, cb0, ne_eq, not_true_eq_false, if_false]
  by_cases h4 : k = 4
  · subst h4
    rw [a5 (by decide), b5 (by decide), cmpF_nn]
    simp only [show ¬ (4 : Int) = 1 by decide, show ¬ (4 : Int) = 2 by decide, show ¬ (4 : Int) = 3 by decide, if_false, if_true, orI]
    split <;> simp_all
  · rw [a4 h4, b4 h4, cmpL_nn]
    by_cases h5 : k = 5
    · subst h5
      simp [orI]
    · rw [a5 h5, b5 h5, cmpF_nn]
      simp [orI, h4, h5]
end
theorem cmpL_out {xs zs : List V} {k : Nat} (h1 : k ≤ xs.length) (h2 : k ≤ zs.length) (h : ¬ k < xs.length ∨ ¬ k < zs.length) (hne : ¬ xs.length = zs.length) : cmpL (xs.drop k) (zs.drop k) = lessI (decide (xs.length < zs.length)) := by
  by_cases hx : k < xs.length
  · rw [cmpL_gt (List.getElem?_eq_getElem hx) (by omega)]
    simp [lessI]; omega
  · rw [cmpL_lt (by omega) (List.getElem?_eq_getElem (show k < zs.length by omega))]
    simp [lessI]; omega
theorem cmpF_out {xs zs : List F} {k : Nat} (h1 : k ≤ xs.length) (h2 : k ≤ zs.length) (h : ¬ k < xs.length ∨ ¬ k < zs.length) (hne : ¬ xs.length = zs.length) : cmpF (xs.drop k) (zs.drop k) = lessI (decide (xs.length < zs.length)) := by
  by_cases hx : k < xs.length
  · rw [cmpF_gt (List.getElem?_eq_getElem hx) (by omega)]
    simp [lessI]; omega
  · rw [cmpF_lt (by omega) (List.getElem?_eq_getElem (show k < zs.length by omega))]
    simp [lessI]; omega
theorem orI_l {a b : Int} (h : ¬ a = 0) : orI a b = a := by simp [orI, h]
theorem orI_r (b : Int) : orI 0 b = b := by simp [orI]
theorem lessI_ne (b : Bool) : ¬ lessI b = 0 := by cases b <;> decide
theorem op_storeVV {P : Program} {E : Operand → AV} {H : HS} {dst : Option Tmp} {ty : TypeId} {pos : String} {after : Array Edge} {gd : Option (Nat × Bool)} {x y : Operand} {t e : TypeId} {id : Nat} (v w : V) (hn : (P.info? t).map (·.size) = some 6) (hx : E x = .ptr id 0) (hb : H.blks[id]? = some ⟨e, (vC v).map .d, false⟩) (hy : E y = .d (.agg (vC w))) :
    OpR P ⟨dst, .store t x y, ty, pos, after, gd⟩ E H (Ret .un (H.setB id ⟨e, (vC w).map .d, false⟩)) :=
  op_storeV w hn hx hb hy (by show 0 + 6 ≤ ((vC v).map AV.d).length; rw [List.length_map, vC_len]; decide) rfl (by
    show (⟨e, putL ((vC v).map AV.d) 0 ((vC w).map AV.d), false⟩ : HB) = _
    rw [vC_eq v, vC_eq w]; rfl)
end Go.AV.Val
