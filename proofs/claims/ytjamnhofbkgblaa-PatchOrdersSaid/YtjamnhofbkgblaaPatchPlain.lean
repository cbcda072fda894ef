/-
  Plain theory of layer 8 (patch): what is done to a document.
-/
import Derived.Test.YtjamnhofbkgblaaValOrd3
namespace Go.AV.Patch
open Go.AV.Ord Go.AV.Oct Go.AV.Val
/-- The first field of a name. -/
def getF (fs : List F) (n : List UInt8) : Option V := (fs.find? fun f => f.name == n).map F.val
def getV (v : V) (n : List UInt8) : V × Bool := match getF v.fields n with
  | some x => (x, decide (v.kind = 5))
  | none => (V0, false)
def withV (v : V) (n : List UInt8) (x : V) : V := if v.kind = 5 then ofMapV (v.fields ++ [⟨n, x⟩]) else v
def withoutV (v : V) (n : List UInt8) : V := .mk v.kind v.yes v.num v.text v.list (v.fields.filter fun f => !(f.name == n))
/-- An operation. -/
structure Opn where
  kind : Int
  path : List (List UInt8)
  val : V
def rightO (o : Opn) : Bool := decide (1 ≤ o.kind) && decide (o.kind ≤ 3) && decide (0 < o.path.length) && decide (o.path.length ≤ 16) && rightV 32 o.val && (decide (o.kind ≠ 3) || decide (o.val.kind = 2)) && (decide (o.kind ≠ 2) || decide (o.val.kind = 0))
/-- The sum of two numbers, and whether it is one. -/
def addI (a b : Int) : Int × Bool := (IntKind.i64.wrap (a + b), decide (IntKind.i64.wrap (a + b) > a) == decide (b > 0))
/-- What is done at the end of a path. -/
def lastV (o : Opn) (v : V) (n : List UInt8) : V × Int :=
  if o.kind = 1 then (withV v n o.val, 0)
  else if (getV v n).2 = false then (V0, 5)
  else if o.kind = 2 then (withoutV v n, 0)
  else if (getV v n).1.kind ≠ 2 then (V0, 1)
  else if (addI (getV v n).1.num o.val.num).2 = false then (V0, 1)
  else (withV v n (ofInt (addI (getV v n).1.num o.val.num).1), 0)
/-- An operation along a path. -/
def atV (o : Opn) : V → List (List UInt8) → V × Int
  | v, [] => if v.kind ≠ 5 then (V0, 5) else (V0, 5)
  | v, [n] => if v.kind ≠ 5 then (V0, 5) else lastV o v n
  | v, n :: m :: p => if v.kind ≠ 5 then (V0, 5) else if (getV v n).2 = false then (V0, 5) else
      if (atV o (getV v n).1 (m :: p)).2 ≠ 0 then (V0, (atV o (getV v n).1 (m :: p)).2) else (withV v n (atV o (getV v n).1 (m :: p)).1, 0)
/-- Operations, one behind the other. -/
def allV : V → List Opn → V × Int
  | v, [] => if rightV 32 v then (v, 0) else (V0, 3)
  | v, o :: l => if (atV o v o.path).2 ≠ 0 then (V0, (atV o v o.path).2) else allV (atV o v o.path).1 l
def applyV (v : V) (l : List Opn) : V × Int := if 50 < l.length then (V0, 4) else if l.all rightO then allV v l else (V0, 1)
theorem putF_snoc : ∀ (l : List F) (f : F), (∀ x ∈ l, Go.Op.bytesLess x.name f.name = true) → putF l f = l ++ [f]
  | [], f, _ => rfl
  | g :: l, f, h => by
    rw [putF, if_pos (h g (by simp)), putF_snoc l f fun x hx => h x (by simp [hx])]
    rfl
theorem rises_mid : ∀ {l : List F} {f : F} {m : List F}, rises (l ++ f :: m) = true → ∀ x ∈ l, Go.Op.bytesLess x.name f.name = true
  | [], _, _, _, x, hx => by cases hx
  | g :: l, f, m, h, x, hx => by
    rcases List.mem_cons.1 hx with rfl | hx
    · exact rises_all h f (by simp)
    · exact rises_mid (rises_tail h) x hx
theorem foldl_self : ∀ (fs l : List F), rises (l ++ fs) = true → fs.foldl putF l = l ++ fs
  | [], l, _ => by simp
  | f :: fs, l, h => by
    rw [List.foldl_cons, putF_snoc l f (rises_mid h), foldl_self fs (l ++ [f]) (by simpa using h)]
    simp
/-- What rises stays as it is. -/
theorem ofF_self {fs : List F} (h : rises fs = true) : ofF fs = fs := foldl_self fs [] h
theorem ofF_snoc (fs : List F) (f : F) : ofF (fs ++ [f]) = putF (ofF fs) f := by simp [ofF, List.foldl_append]
theorem getF_cons (g : F) (l : List F) (n : List UInt8) : getF (g :: l) n = if g.name = n then some g.val else getF l n := by
  unfold getF
  by_cases h : g.name = n
  · rw [if_pos h, List.find?_cons_of_pos (by simpa using h)]; rfl
  · rw [if_neg h, List.find?_cons_of_neg (by simpa using h)]
theorem getF_put : ∀ (l : List F) (f : F), getF (putF l f) f.name = some f.val
  | [], f => by rw [putF, getF_cons, if_pos rfl]
  | g :: l, f => by
    rw [putF]
    split
    · rename_i h
      rw [getF_cons, if_neg fun e => by rw [e, less_irrefl] at h; cases h]
      exact getF_put l f
    · split
      · rw [getF_cons, if_pos rfl]
      · rw [getF_cons, if_pos rfl]
theorem getF_other : ∀ (l : List F) (f : F) (n : List UInt8), ¬ f.name = n → getF (putF l f) n = getF l n
  | [], f, n, h => by rw [putF, getF_cons, if_neg h]
  | g :: l, f, n, h => by
    rw [putF]
    split
    · rw [getF_cons, getF_cons, getF_other l f n h]
    · split
      · rename_i h2
        have e : g.name = f.name := by simpa using h2
        rw [getF_cons, getF_cons, if_neg h, if_neg (by rw [e]; exact h)]
      · rw [getF_cons f, if_neg h]
theorem getF_none : ∀ {l : List F} {n : List UInt8}, (∀ x ∈ l, ¬ x.name = n) → getF l n = none
  | [], _, _ => rfl
  | g :: l, n, h => by rw [getF_cons, if_neg (h g (by simp)), getF_none fun x hx => h x (by simp [hx])]
theorem getF_below {g : F} {l : List F} {n : List UInt8} (h : rises (g :: l) = true) (hn : n = g.name ∨ Go.Op.bytesLess n g.name = true) : getF l n = none := by
  refine getF_none fun x hx e => ?_
  have h1 := rises_all h x hx
  rcases hn with rfl | hn
  · exact less_ne h1 e.symm
  · exact less_ne (less_trans hn h1) e.symm
/-- Two rising lists that hold the same are the same. -/
theorem fields_ext : ∀ {l m : List F}, rises l = true → rises m = true → (∀ n, getF l n = getF m n) → l = m
  | [], [], _, _, _ => rfl
  | [], g :: m, _, _, h => by have h1 := h g.name; rw [getF_cons, if_pos rfl] at h1; cases h1
  | f :: l, [], _, _, h => by have h1 := h f.name; rw [getF_cons, if_pos rfl] at h1; cases h1
  | f :: l, g :: m, hl, hm, h => by
    have hn : f.name = g.name := by
      by_cases e : f.name = g.name
      · exact e
      · exfalso
        by_cases hlt : Go.Op.bytesLess f.name g.name = true
        · have h1 := h f.name
          rw [getF_cons, if_pos rfl, getF_cons, if_neg fun e2 => e e2.symm, getF_below hm (.inr hlt)] at h1
          cases h1
        · have hgt : Go.Op.bytesLess g.name f.name = true := by rw [less_total e]; simpa using hlt
          have h1 := h g.name
          rw [getF_cons f, if_neg e, getF_cons g, if_pos rfl, getF_below hl (.inr hgt)] at h1
          cases h1
    have hv : f.val = g.val := by
      have h1 := h f.name
      rw [getF_cons, if_pos rfl, getF_cons, if_pos hn.symm] at h1
      exact Option.some.inj h1
    have hfg : f = g := by
      cases f; cases g
      simp only [F.name, F.val] at hn hv
      rw [hn, hv]
    have ht : l = m := fields_ext (rises_tail hl) (rises_tail hm) fun n => by
      by_cases e : f.name = n
      · rw [getF_below hl (.inl e.symm), getF_below hm (.inl (e.symm.trans hn))]
      · have h1 := h n
        rwa [getF_cons, if_neg e, getF_cons, if_neg (by rw [← hn]; exact e)] at h1
    rw [hfg, ht]
/-- Fields of unlike names may be put in any order. -/
theorem put_comm {l : List F} {f g : F} (hl : rises l = true) (h : ¬ f.name = g.name) : putF (putF l f) g = putF (putF l g) f := by
  refine fields_ext (putF_rises _ (putF_rises _ hl)) (putF_rises _ (putF_rises _ hl)) fun n => ?_
  by_cases e1 : g.name = n
  · subst e1
    rw [getF_put, getF_other _ _ _ h, getF_put]
  · rw [getF_other _ _ _ e1]
    by_cases e2 : f.name = n
    · subst e2
      rw [getF_put, getF_put]
    · rw [getF_other _ _ _ e2, getF_other _ _ _ e2, getF_other _ _ _ e1]
def delF (l : List F) (n : List UInt8) : List F := l.filter fun f => !(f.name == n)
theorem delF_cons (g : F) (l : List F) (n : List UInt8) : delF (g :: l) n = if g.name = n then delF l n else g :: delF l n := by
  unfold delF
  by_cases h : g.name = n
  · rw [if_pos h, List.filter_cons_of_neg (by simpa using h)]
  · rw [if_neg h, List.filter_cons_of_pos (by simpa using h)]
theorem getF_del : ∀ (l : List F) (n m : List UInt8), getF (delF l n) m = if m = n then none else getF l m
  | [], n, m => by split <;> rfl
  | g :: l, n, m => by
    rw [delF_cons]
    by_cases h : g.name = n
    · rw [if_pos h, getF_del l n m]
      by_cases e : m = n
      · rw [if_pos e, if_pos e]
      · rw [if_neg e, if_neg e, getF_cons, if_neg (by rw [h]; exact fun x => e x.symm)]
    · rw [if_neg h, getF_cons, getF_del l n m, getF_cons]
      by_cases e : m = n
      · rw [if_pos e, if_pos e, if_neg (by rw [e]; exact h)]
      · rw [if_neg e, if_neg e]
theorem rises_del : ∀ {l : List F} (n : List UInt8), rises l = true → rises (delF l n) = true
  | [], _, _ => rfl
  | g :: l, n, h => by
    rw [delF_cons]
    split
    · exact rises_del n (rises_tail h)
    · exact rises_cons (fun x hx => rises_all h x (List.mem_filter.1 hx).1) (rises_del n (rises_tail h))
/-- A new field, put and taken away again, is gone. -/
theorem del_put {l : List F} {f : F} (hl : rises l = true) (h : getF l f.name = none) : delF (putF l f) f.name = l := by
  refine fields_ext (rises_del _ (putF_rises _ hl)) hl fun m => ?_
  rw [getF_del]
  by_cases e : m = f.name
  · rw [if_pos e, e, h]
  · rw [if_neg e, getF_other _ _ _ fun x => e x.symm]
end Go.AV.Patch
namespace Go.AV.Patch
open Go.AV.Ord Go.AV.Oct Go.AV.Val
theorem atV_one (o : Opn) (v : V) (n : List UInt8) : atV o v [n] = if v.kind ≠ 5 then (V0, 5) else lastV o v n := by rw [atV]
theorem atV_more (o : Opn) (v : V) (n m : List UInt8) (p : List (List UInt8)) : atV o v (n :: m :: p) = if v.kind ≠ 5 then (V0, 5) else if (getV v n).2 = false then (V0, 5) else
      if (atV o (getV v n).1 (m :: p)).2 ≠ 0 then (V0, (atV o (getV v n).1 (m :: p)).2) else (withV v n (atV o (getV v n).1 (m :: p)).1, 0) := by rw [atV]
theorem rightO_eq (o : Opn) : rightO o = (decide (1 ≤ o.kind) && decide (o.kind ≤ 3) && decide (0 < o.path.length) && decide (o.path.length ≤ 16) && rightV 32 o.val && (decide (o.kind ≠ 3) || decide (o.val.kind = 2)) && (decide (o.kind ≠ 2) || decide (o.val.kind = 0))) := rfl
theorem path_ne {o : Opn} (h : rightO o = true) : o.path ≠ [] := by
  intro e
  rw [rightO_eq, e] at h
  simp at h
theorem allV_cons (v : V) (o : Opn) (l : List Opn) : allV v (o :: l) = if (atV o v o.path).2 ≠ 0 then (V0, (atV o v o.path).2) else allV (atV o v o.path).1 l := by rw [allV]
theorem getV_some {v x : V} {n : List UInt8} (h : getF v.fields n = some x) : getV v n = (x, decide (v.kind = 5)) := by unfold getV; rw [h]
theorem getV_none {v : V} {n : List UInt8} (h : getF v.fields n = none) : getV v n = (V0, false) := by unfold getV; rw [h]
end Go.AV.Patch
