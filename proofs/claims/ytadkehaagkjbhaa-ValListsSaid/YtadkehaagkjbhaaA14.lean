/-
  The AV logic, part 14: lists of whatever elements that grow; what is returned is known less of.
-/
import Derived.Test.YtadkehaagkjbhaaA13
namespace Go.AV
open Go.RowKit

/-- v, held at some place of H', is the heir of t in H, and has the elements xs. -/
structure Grows (H : HS) (t : Option Nat) (v : AV) (H' : HS) (sz : Nat) (xs : List DV) : Prop where
  ex : ∃ t', App v t' sz xs ∧ Heir H t H' t' ∧ H'.ok t' xs.length
theorem Grows.own {H : HS} {t : Option Nat} {v : AV} {sz : Nat} {xs : List DV} (h : App v t sz xs) (hok : H.ok t xs.length) : Grows H t v H sz xs := ⟨⟨t, h, Heir.refl _ _, hok⟩⟩
theorem Grows.grown {H H' : HS} {t t' : Option Nat} {sz m n : Nat} {xs ys : List DV} (hh : Heir H t H' t') (hok : H'.ok t' m) (hx : xs = ys) (hn : n = ys.length) : Grows H t (.own (some (H'.tk t')) sz xs) (H'.up t' n) sz ys := by
  subst hx
  exact ⟨⟨_, .own _ _ _, hh.step n, by rw [hn]; exact HS.ok_up H' t' _ hok⟩⟩
/-- A value of which less is known. -/
def Weak (v v' : AV) : Prop := ∀ (c : Ctx) (x : Value), Rep c x v → Rep c x v'
theorem Weak.refl (v : AV) : Weak v v := fun _ _ h => h
theorem Weak.lst {v : AV} {t : Option Nat} {sz : Nat} {xs : List DV} (h : App v t sz xs) : Weak v (.d (.lst sz xs)) := by
  intro c x hx
  obtain ⟨a, n, cap, rfl, hd⟩ := h.ll.rep hx
  exact .d hd
theorem Weak.nil (sz : Nat) : Weak nilS (.d (.lst sz [])) := Weak.lst (.nil sz)
inductive Weaks : List AV → List AV → Prop
  | nil : Weaks [] []
  | cons {x y : AV} {l m : List AV} (h : Weak x y) (r : Weaks l m) : Weaks (x :: l) (y :: m)
theorem Weaks.len {l m : List AV} (h : Weaks l m) : l.length = m.length := by
  induction h with
  | nil => rfl
  | cons _ _ ih => simp [ih]
theorem Weaks.get {l m : List AV} (h : Weaks l m) : ∀ (c : Ctx) (vs : Nat → Value), (∀ i (hi : i < l.length), Rep c (vs i) l[i]) → ∀ i (hi : i < m.length), Rep c (vs i) m[i] := by
  induction h with
  | nil => intro c vs _ i hi; simp at hi
  | cons hx _ ih =>
    intro c vs hv i hi
    cases i with
    | zero => exact hx c _ (hv 0 (by simp))
    | succ i => exact ih c (fun j => vs (j + 1)) (fun j hj => by have := hv (j + 1) (by simpa using hj); simpa using this) i (by simpa using hi)
theorem Weak.tup {l m : List AV} (h : Weaks l m) : Weak (.tup l) (.tup m) := by
  intro c x hx
  cases hx with
  | tup vs _ hl hr => exact .tup vs _ (by rw [hl, h.len]) (h.get c (fun i => vs.getD i undef) hr)
theorem Weak.agg {l m : List AV} (h : Weaks l m) : Weak (.agg l) (.agg m) := by
  intro c x hx
  cases hx with
  | agg vs _ hl hr => exact .agg vs _ (by rw [hl, h.len]) (h.get c (fun i => vs.getD i undef) hr)
theorem Weak.aggD {l : List AV} {ds : List DV} (h : Weaks l (ds.map .d)) (h1 : ∀ d ∈ ds, d.one = true) : Weak (.agg l) (.d (.agg ds)) := fun c x hx => rep_agg_d h1 (Weak.agg h c x hx)
theorem ACalls.weak {P : Program} {f : FuncId} {args : List AV} {H : HS} {R R' : AV → HS → Prop} (h : ACalls P f args H R) (hr : ∀ v H', R v H' → ∃ v', Weak v v' ∧ R' v' H') : ACalls P f args H R' :=
  fun B w0 c w vs hI hs ha => (h B w0 c w vs hI hs ha).mono fun _ _ ⟨v, av, H', c', h1, h2, h3, h4, h5⟩ => by
    obtain ⟨v', h6, h7⟩ := hr _ _ h5
    exact ⟨v, v', H', c', h1, h2, h6 _ _ h3, h4, h7⟩
/-- Two parts, and what holds between them. -/
def CutP (R : List AV → HS → Prop) (Q : Post) : Post := fun e T H => match e with
  | .normal => ∃ T', TLe T T' ∧ R T' H
  | e => Q e T H
section
variable {P : Program} {Q : Post} {T T' : List AV} {H : HS} {R : List AV → HS → Prop}
theorem cut_to (m : List Bool) (hm : maskT m T = T') (hl : m.length = T.length) (h : R T' H) : CutP R Q .normal T H := ⟨T', hm ▸ maskT_le m T hl, h⟩
theorem cut_ret (h : Q .ret T H) : CutP R Q .ret T H := h
theorem cut_exit {i : Nat} (h : Q (.exit i) T H) : CutP R Q (.exit i) T H := h
theorem aw_cutF {x y : Code} (R : List AV → HS → Prop) (h1 : AW P x (CutP R Q) T H) (h2 : ∀ T H, R T H → AW P y Q T H) : AW P (.seq x y) Q T H :=
  aw_cut R h1 h2
end
end Go.AV
