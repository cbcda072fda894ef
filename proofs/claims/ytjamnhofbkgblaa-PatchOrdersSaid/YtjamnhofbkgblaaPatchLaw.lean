/-
  Plain theory of layer 8 (patch): what an operation does to a map's fields.
-/
import Derived.Test.YtjamnhofbkgblaaPatchBnd
namespace Go.AV.Patch
open Go.AV.Ord Go.AV.Oct Go.AV.Val
/-! ### A value is the same as itself -/
theorem cmpI_refl (a : Int) : cmpI a a = 0 := by simp [cmpI]
theorem cmpL_refl : ∀ (l : List V), (∀ x ∈ l, cmpV x x = 0) → cmpL l l = 0
  | [], _ => by rw [cmpL]
  | x :: l, h => by rw [cmpL_cons, if_neg (by rw [h x (by simp)]; simp), cmpL_refl l fun y hy => h y (by simp [hy])]
theorem cmpF_refl : ∀ (l : List F), (∀ x ∈ l, cmpV x.val x.val = 0) → cmpF l l = 0
  | [], _ => by rw [cmpF]
  | .mk n v :: l, h => by
    have h1 : cmpV v v = 0 := h (.mk n v) (by simp)
    have h2 : cmpF1 (.mk n v) (.mk n v) = 0 := by simp [cmpF1, F.name, F.val, cb_eq.2 (rfl : n = n), h1, orI]
    rw [cmpF_cons, h2, cmpF_refl l fun y hy => h y (by simp [hy])]
    rfl
theorem cmp_refl' : ∀ (m : Nat) (v : V), SizeOf.sizeOf v ≤ m → cmpV v v = 0
  | 0, v, hm => by cases v; simp at hm
  | m + 1, v, hm => by
    have hL : cmpL v.list v.list = 0 := cmpL_refl _ fun x hx => cmp_refl' m x (by have := list_lt hx; omega)
    have hF : cmpF v.fields v.fields = 0 := cmpF_refl _ fun x hx => cmp_refl' m x.val (by have := field_lt hx; omega)
    have hT : Lib.compareBytes v.text v.text = 0 := cb_eq.2 rfl
    cases v
    simp only [V.list, V.fields, V.text] at hL hF hT
    rw [cmpV_mk]
    simp [V.kind, V.yes, V.num, V.text, V.list, V.fields, cmpI_refl, hL, hF, hT]
theorem cmp_refl (v : V) : cmpV v v = 0 := cmp_refl' _ v (Nat.le_refl _)
/-! ### Maps -/
def M (fs : List F) : V := .mk 5 false 0 [] [] fs
theorem map_of {d : Nat} {v : V} (h : rightV (d + 1) v = true) (hk : v.kind = 5) : v = M v.fields ∧ rises v.fields = true := by
  obtain ⟨h1, _, _, h4⟩ := right_only h
  cases v
  simp only [V.kind] at hk
  subst hk
  obtain ⟨a1, a2, a3, a4, _⟩ := only_parts h1
  rw [a1 (by decide), a2 (by decide), a3 (by decide), a4 (by decide)]
  exact ⟨rfl, h4⟩
theorem map_right {d : Nat} {fs : List F} : rightV (d + 1) (M fs) = (rises fs && fs.all fun f => rightV d f.val) := by
  show (onlyV (M fs) && rises fs && fs.all (fun f => rightV d f.val) && ([] : List V).all (rightV d)) = _
  have : onlyV (M fs) = true := by simp [onlyV, M, V.kind, V.yes, V.num, V.text, V.list, V.fields]
  rw [this]; simp
theorem ofMap_rise {fs : List F} (h : rises fs = true) (n : List UInt8) (x : V) : withV (M fs) n x = M (putF fs (.mk n x)) := by
  show (if (5 : Int) = 5 then ofMapV (fs ++ [F.mk n x]) else M fs) = _
  rw [if_pos rfl, ofMapV, ofF_snoc, ofF_self h]; rfl
theorem without_M (fs : List F) (n : List UInt8) : withoutV (M fs) n = M (delF fs n) := rfl
theorem getV_M (fs : List F) (n : List UInt8) : getV (M fs) n = match getF fs n with
  | some x => (x, true)
  | none => (V0, false) := by
  unfold getV
  show (match getF fs n with | some x => (x, decide ((5 : Int) = 5)) | none => (V0, false)) = _
  cases getF fs n <;> rfl
/-- What an operation makes of a field, or of none. -/
def stepO (o : Opn) : List (List UInt8) → Option V → Int × Option V
  | [], x => if o.kind = 1 then (0, some o.val) else match x with
    | none => (5, none)
    | some y => if o.kind = 2 then (0, none) else if y.kind ≠ 2 then (1, none) else if (addI y.num o.val.num).2 = false then (1, none) else (0, some (ofInt (addI y.num o.val.num).1))
  | m :: p, x => match x with
    | none => (5, none)
    | some y => if (atV o y (m :: p)).2 ≠ 0 then ((atV o y (m :: p)).2, none) else (0, some (atV o y (m :: p)).1)
def updF (fs : List F) (n : List UInt8) : Option V → List F
  | some x => putF fs (.mk n x)
  | none => delF fs n
theorem at_step (o : Opn) {fs : List F} (h : rises fs = true) (n : List UInt8) (p : List (List UInt8)) : atV o (M fs) (n :: p) = if (stepO o p (getF fs n)).1 ≠ 0 then (V0, (stepO o p (getF fs n)).1) else (M (updF fs n (stepO o p (getF fs n)).2), 0) := by
  have hk : ¬ (M fs).kind ≠ 5 := fun e => e rfl
  have hg := getV_M fs n
  cases p with
  | nil =>
    rw [atV_one, if_neg hk, lastV, hg, ofMap_rise h, without_M]
    cases hx : getF fs n with
    | none =>
      simp only [stepO]
      by_cases h1 : o.kind = 1
      · simp [h1, updF]
      · simp [h1]
    | some y =>
      simp only [stepO]
      by_cases h1 : o.kind = 1
      · simp [h1, updF]
      · by_cases h2 : o.kind = 2
        · simp [h2, updF]
        · by_cases h3 : y.kind = 2
          · by_cases h4 : (addI y.num o.val.num).2 = false
            · simp [h1, h2, h3, h4]
            · simp [h1, h2, h3, h4, updF, ofMap_rise h]
          · simp [h1, h2, h3]
  | cons m p =>
    rw [atV_more, if_neg hk, hg]
    cases hx : getF fs n with
    | none => simp [stepO]
    | some y =>
      simp only [stepO]
      by_cases h3 : (atV o y (m :: p)).2 = 0
      · simp [h3, updF, ofMap_rise h]
      · simp [h3]
theorem getF_upd (fs : List F) (n m : List UInt8) (x : Option V) : getF (updF fs n x) m = if m = n then x else getF fs m := by
  cases x with
  | some x =>
    show getF (putF fs (.mk n x)) m = _
    by_cases e : m = n
    · rw [if_pos e, e]; exact getF_put fs (.mk n x)
    · rw [if_neg e, getF_other _ _ _ (by show ¬ n = m; exact fun h => e h.symm)]
  | none => exact getF_del fs n m
theorem getF_upd_ne (fs : List F) {n m : List UInt8} (h : ¬ m = n) (x : Option V) : getF (updF fs n x) m = getF fs m := by rw [getF_upd, if_neg h]
theorem rises_upd {fs : List F} (h : rises fs = true) (n : List UInt8) (x : Option V) : rises (updF fs n x) = true := by
  cases x with
  | some x => exact putF_rises _ h
  | none => exact rises_del n h
theorem upd_comm {fs : List F} (h : rises fs = true) {n m : List UInt8} (hn : ¬ n = m) (a b : Option V) : updF (updF fs n a) m b = updF (updF fs m b) n a := by
  refine fields_ext (rises_upd (rises_upd h _ _) _ _) (rises_upd (rises_upd h _ _) _ _) fun k => ?_
  rw [getF_upd, getF_upd, getF_upd, getF_upd]
  by_cases e1 : k = m
  · rw [if_pos e1, if_neg (fun e => hn (e.symm.trans e1)), if_pos e1]
  · rw [if_neg e1]
    by_cases e2 : k = n
    · rw [if_pos e2, if_pos e2]
    · rw [if_neg e2, if_neg e2, if_neg e1]
/-! ### The laws' own words -/
def fewP (o : Opn) : Bool := decide (o.path.length ≤ 20) && fewV 7 o.val && o.path.all fun p => decide (p.length ≤ 40)
def fewO (l : List Opn) : Bool := l.all fewP && decide (l.length ≤ 60)
theorem fewP_parts {o : Opn} (h : fewP o = true) : o.path.length ≤ 20 ∧ fewV 7 o.val = true ∧ ∀ p ∈ o.path, p.length ≤ 40 := by
  simp only [fewP, Bool.and_eq_true, decide_eq_true_eq, List.all_eq_true] at h
  exact ⟨h.1.1, h.1.2, h.2⟩
theorem fewO_parts {l : List Opn} (h : fewO l = true) : (∀ o ∈ l, fewP o = true) ∧ l.length ≤ 60 := by
  simp only [fewO, Bool.and_eq_true, decide_eq_true_eq, List.all_eq_true] at h
  exact h
theorem head_few : BndV 8 (ofMapV [F.mk [110] (ofInt 5)]) := few_bnd 7 _ rfl
theorem head_apply : applyV (ofMapV [F.mk [110] (ofInt 5)]) [⟨3, [[110]], ofInt 2⟩] = (ofMapV [F.mk [110] (ofInt 7)], 0) := by rfl
/-- Operations on unlike fields may be done in any order. -/
theorem orders_law {v : V} {a b : Opn} (hv : rightV 32 v = true) (ha : rightO a = true) (hb : rightO b = true) {n m : List UInt8} {p q : List (List UInt8)} (hp : a.path = n :: p) (hq : b.path = m :: q) (hne : ¬ n = m) :
    ((applyV v [a, b]).2 = 0 ↔ (applyV v [b, a]).2 = 0) ∧ ((applyV v [a, b]).2 = 0 → (applyV v [a, b]).1 = (applyV v [b, a]).1) := by
  have e1 : applyV v [a, b] = allV v [a, b] := by simp [applyV, ha, hb]
  have e2 : applyV v [b, a] = allV v [b, a] := by simp [applyV, ha, hb]
  rw [e1, e2]
  by_cases hk : v.kind = 5
  · obtain ⟨hM, hr⟩ := map_of hv hk
    generalize v.fields = fs at hM hr
    subst hM
    have sa := at_step a hr n p
    have sb := at_step b hr m q
    rw [allV_cons, allV_cons (M fs) b, hp, hq, sa, sb]
    by_cases ea : (stepO a p (getF fs n)).1 = 0
    · rw [if_neg (show ¬ (stepO a p (getF fs n)).1 ≠ 0 from fun h => h ea)]
      have tb := at_step b (rises_upd hr n (stepO a p (getF fs n)).2) m q
      rw [getF_upd_ne _ (fun e => hne e.symm)] at tb
      simp only [ne_eq, not_true_eq_false, if_false]
      rw [allV_cons, hq, tb]
      by_cases eb : (stepO b q (getF fs m)).1 = 0
      · have ta := at_step a (rises_upd hr m (stepO b q (getF fs m)).2) n p
        rw [getF_upd_ne _ hne] at ta
        simp only [eb, ne_eq, not_true_eq_false, if_false]
        rw [allV_cons, hp, ta]
        simp only [ea, ne_eq, not_true_eq_false, if_false]
        rw [upd_comm hr hne]
        exact ⟨Iff.rfl, fun _ => rfl⟩
      · simp [eb]
    · rw [if_pos ea]
      have hA : ¬ (V0, (stepO a p (getF fs n)).1).2 = 0 := ea
      rw [if_pos hA]
      refine ⟨⟨fun h => absurd h ea, fun h => ?_⟩, fun h => absurd h ea⟩
      exfalso
      by_cases eb : (stepO b q (getF fs m)).1 = 0
      · have ta := at_step a (rises_upd hr m (stepO b q (getF fs m)).2) n p
        rw [getF_upd_ne _ hne] at ta
        simp only [eb, ne_eq, not_true_eq_false, if_false] at h
        rw [allV_cons, hp, ta] at h
        simp [ea] at h
      · simp [eb] at h
  · have hx : ∀ (o : Opn) (p : List (List UInt8)), atV o v p = (V0, 5) := by
      intro o p
      match p with
      | [] => simp [atV, hk]
      | [_] => simp [atV, hk]
      | _ :: _ :: _ => rw [atV_more, if_pos hk]
    have h5 : ∀ o o' : Opn, (allV v [o, o']).2 = 5 := by intro o o'; rw [allV_cons, hx]; simp
    rw [h5, h5]
    exact ⟨Iff.rfl, fun h => absurd h (by decide)⟩
end Go.AV.Patch
