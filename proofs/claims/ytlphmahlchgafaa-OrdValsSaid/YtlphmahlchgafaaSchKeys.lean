/-
  Plain theory of the keys of layer 13: what is kept where.
-/
import Derived.Test.YtlphmahlchgafaaSchPlain
import Derived.Test.YtlphmahlchgafaaValOrd2
import Derived.Test.YtlphmahlchgafaaArgColl
namespace Go.AV.Sch
open Go.AV.Ord Go.AV.Oct Go.AV.Val
def fewIx (x : Ix) : Bool := decide (x.name.length ≤ 60) && decide (x.field.length ≤ 60)
def fewC (name : List UInt8) (xs : List Ix) : Bool := xs.all fewIx && decide (xs.length ≤ 12) && decide (name.length ≤ 60)
theorem fewC_parts {name : List UInt8} {xs : List Ix} (h : fewC name xs = true) : xs.length ≤ 12 ∧ name.length ≤ 60 := by
  simp only [fewC, Bool.and_eq_true, decide_eq_true_eq] at h
  exact ⟨h.1.2, h.2⟩
theorem fewC_step {xs : List Ix} {k : Nat} {y : Ix} (hy : xs[k]? = some y) (h : (xs.take k).all fewIx = true) (h1 : y.name.length ≤ 60) (h2 : y.field.length ≤ 60) : (xs.take (k + 1)).all fewIx = true := by
  rw [take_snoc hy, List.all_append, h]
  simp [fewIx, h1, h2]
theorem fewC_bad {name : List UInt8} {xs : List Ix} {k : Nat} {y : Ix} (hy : xs[k]? = some y) (h : fewIx y = false) : fewC name xs = false := by
  have : xs.all fewIx = false := by
    rw [List.all_eq_false]
    exact ⟨y, List.mem_of_getElem? hy, by simp [h]⟩
  simp [fewC, this]
/-- Where an index has a value: of a document, or, if each is there once, of any. -/
def entryL (cn xn : List UInt8) (u : Bool) (v : V) (id : List UInt8) : List UInt8 := keyL [[105], cn, xn] ++ ordV v ++ (if u then [] else encT id)
/-- Does a text begin with another one? -/
def begB (s t : List UInt8) : Bool := decide (t.length ≤ s.length) && (s.take t.length == t)
theorem begB_app (t r : List UInt8) : begB (t ++ r) t = true := by simp [begB]
theorem begB_iff {s t : List UInt8} : begB s t = true ↔ t <+: s := by
  unfold begB
  constructor
  · intro h
    simp only [Bool.and_eq_true, decide_eq_true_eq, beq_iff_eq] at h
    exact ⟨s.drop t.length, by rw [← h.2]; rw [List.length_take, Nat.min_eq_left h.1]; exact List.take_append_drop _ _⟩
  · rintro ⟨r, rfl⟩
    exact begB_app t r
theorem ext2 (Hs : HS) (a b : List UInt8) : Ext Hs (upB (upB Hs none a) (some (Hs.tk none)) b) :=
  (((Ext.refl Hs).upN (n := a.length) (NewTok.none Hs) (HS.ok_none _ 0)).1.upN (n := b.length) ((Ext.refl Hs).upN (n := a.length) (NewTok.none Hs) (HS.ok_none _ 0)).2 (okB Hs none a (HS.ok_none _ 0))).1
theorem ok2 (Hs : HS) (a b : List UInt8) : (upB (upB Hs none a) (some (Hs.tk none)) b).ok (some (Hs.tk none)) b.length := okB (upB Hs none a) (some (Hs.tk none)) b (okB Hs none a (HS.ok_none _ 0))
theorem ext3 (Hs : HS) (a b c : List UInt8) : Ext Hs (upB (upB (upB Hs none a) (some (Hs.tk none)) b) (some (Hs.tk none)) c) :=
  ((ext2 Hs a b).upN (n := c.length) ((Ext.refl Hs).upN (n := a.length) (NewTok.none Hs) (HS.ok_none _ 0)).2 (ok2 Hs a b)).1
theorem keyL_most : ∀ ps : List (List UInt8), (keyL ps).length ≤ 2 * (ps.map List.length).sum + 2 * ps.length
  | [] => by simp [keyL]
  | p :: ps => by
    have h1 := keyL_most ps
    have h2 := encT_len p
    have h3 := enc0_len p
    simp only [keyL, List.flatMap_cons, List.length_append, List.map_cons, List.sum_cons, List.length_cons] at h1 ⊢
    omega
theorem keyL3_most (a b c : List UInt8) : (keyL [a, b, c]).length ≤ 2 * (a.length + b.length + c.length) + 6 := by
  have := keyL_most [a, b, c]
  simp at this
  omega
def ordB : Nat → Nat
  | 0 => 0
  | n + 1 => 8 * ordB n + 1100
theorem ordV_few : ∀ (n : Nat) (v : V), fewV n v = true → (ordV v).length ≤ ordB n
  | 0, _, h => by simp [fewV] at h
  | n + 1, .mk k y i t l fs, h => by
    obtain ⟨h1, h2, h3, h4, h5⟩ := few_parts h
    simp only [V.list, V.fields, V.text] at h1 h2 h3 h4 h5
    have hl := flat_bound ordV (ordB n) l fun x hx => ordV_few n x (h4 x hx)
    have hf := flat_bound ordF1 (ordB n + 83) fs fun f hf => by
      have hh := ordV_few n f.val (h5 f hf).2
      have hn := encT_len f.name
      have hn2 := enc0_len f.name
      have := (h5 f hf).1
      simp only [ordF1, List.length_cons, List.length_append]
      omega
    have hl2 : l.length * ordB n ≤ 8 * ordB n := Nat.mul_le_mul_right _ h1
    have hf2 : fs.length * (ordB n + 83) ≤ 8 * (ordB n + 83) := Nat.mul_le_mul_right _ h2
    have ht := encT_len t
    have ht2 := enc0_len t
    have hi := encI_len i
    rw [ordV_mk]
    show _ ≤ 8 * ordB n + 1100
    split <;> (try split) <;> (try split) <;> (try split) <;> (try split) <;> simp only [List.length_cons, List.length_append, List.length_nil] <;> omega
theorem law_ord {v : V} (h : fewV 7 v = true) (hw : WfV v) : (ordV (lawR v)).length ≤ 900000000 := by
  have := ordV_few 7 _ (lawR_few 7 v h hw).2.1
  have e : ordB 7 ≤ 900000000 := by decide
  omega
theorem encT_split {a b m o : List UInt8} (h : encT a ++ m = encT b ++ o) : a = b ∧ m = o := by
  have e := encT_inj h
  subst e
  exact ⟨rfl, List.append_cancel_left h⟩
theorem keyL_cons (p : List UInt8) (ps : List (List UInt8)) (r : List UInt8) : keyL (p :: ps) ++ r = encT p ++ (keyL ps ++ r) := by simp [keyL]
theorem keyL_head {p q : List UInt8} {ps qs : List (List UInt8)} {r s : List UInt8} (h : keyL (p :: ps) ++ r = keyL (q :: qs) ++ s) : p = q ∧ keyL ps ++ r = keyL qs ++ s := by
  rw [keyL_cons, keyL_cons] at h
  exact encT_split h
theorem keyL_second {p q a b : List UInt8} {ps qs : List (List UInt8)} {r s : List UInt8} (h : keyL (p :: a :: ps) ++ r = keyL (q :: b :: qs) ++ s) : a = b := (keyL_head (keyL_head h).2).1
theorem keyL_ne1 {p q : List UInt8} {ps qs : List (List UInt8)} (h : ¬ p = q) (r s : List UInt8) : ¬ keyL (p :: ps) ++ r = keyL (q :: qs) ++ s := fun e => h (keyL_head e).1
theorem keyL_ne2 {p q a b : List UInt8} {ps qs : List (List UInt8)} (h : ¬ a = b) (r s : List UInt8) : ¬ keyL (p :: a :: ps) ++ r = keyL (q :: b :: qs) ++ s := fun e => h (keyL_second e)
theorem begB_no {s t : List UInt8} (h : ∀ r, ¬ s = t ++ r) : begB s t = false := by
  rw [Bool.eq_false_iff]
  intro hb
  obtain ⟨r, hr⟩ := begB_iff.1 hb
  exact h r hr.symm
/-- Keys of one collection are none of another one's. -/
theorem parts_law {an bn : List UInt8} (hab : ¬ an = bn) (xn yn : List UInt8) (u w : Bool) (v : V) (id other : List UInt8) :
    ¬ keyL [[99], an] = keyL [[99], bn] ∧ ¬ keyL [[100], an, id] = keyL [[100], bn, other] ∧ ¬ entryL an xn u v id = entryL bn yn w v other ∧ begB (keyL [[100], an, id]) (keyL [[100], bn]) = false ∧ begB (entryL an xn u v id) (keyL [[105], bn, yn]) = false ∧
    ¬ keyL [[100], an, id] = entryL an xn u v id ∧ ¬ keyL [[99], an] = keyL [[100], an, id] := by
  refine ⟨fun h => ?_, fun h => ?_, fun h => ?_, begB_no fun r h => ?_, begB_no fun r h => ?_, fun h => ?_, fun h => ?_⟩
  · exact keyL_ne2 hab [] [] (by rw [List.append_nil, List.append_nil]; exact h)
  · exact keyL_ne2 hab [] [] (by rw [List.append_nil, List.append_nil]; exact h)
  · simp only [entryL, List.append_assoc] at h
    exact keyL_ne2 hab _ _ h
  · exact keyL_ne2 hab [] r (by rw [List.append_nil]; exact h)
  · simp only [entryL, List.append_assoc] at h
    exact keyL_ne2 hab _ _ h
  · simp only [entryL, List.append_assoc] at h
    exact keyL_ne1 (p := [100]) (q := [105]) (by decide) [] _ (by rw [List.append_nil]; exact h)
  · exact keyL_ne1 (p := [99]) (q := [100]) (by decide) [] [] (by rw [List.append_nil, List.append_nil]; exact h)
theorem op_storeVV {P : Program} {E : Operand → AV} {H : HS} {dst : Option Tmp} {ty : TypeId} {pos : String} {after : Array Edge} {gd : Option (Nat × Bool)} {x y : Operand} {t e : TypeId} {id : Nat} (v w : V) (hn : (P.info? t).map (·.size) = some 6) (hx : E x = .ptr id 0) (hb : H.blks[id]? = some ⟨e, (vC v).map .d, false⟩) (hy : E y = .d (.agg (vC w))) :
    OpR P ⟨dst, .store t x y, ty, pos, after, gd⟩ E H (Ret .un (H.setB id ⟨e, (vC w).map .d, false⟩)) :=
  op_storeV w hn hx hb hy (by show 0 + 6 ≤ ((vC v).map AV.d).length; rw [List.length_map, vC_len]; decide) rfl (by
    show (⟨e, putL ((vC v).map AV.d) 0 ((vC w).map AV.d), false⟩ : HB) = _
    rw [vC_eq v, vC_eq w]; rfl)
/-- The order of two entries of an index. -/
def ordE (uq : Bool) (c : Int) (a b : List UInt8) : Int := if c = 0 ∧ uq = false then byL a b else c
theorem ordE_zero {uq : Bool} {c : Int} {a b : List UInt8} (h : c = 0) (hu : uq = false) : ordE uq c a b = byL a b := by rw [ordE, if_pos ⟨h, hu⟩]
theorem ordE_ne {uq : Bool} {c : Int} {a b : List UInt8} (h : ¬ c = 0) : ordE uq c a b = c := by rw [ordE, if_neg fun e => h e.1]
theorem ordE_uq {uq : Bool} {c : Int} {a b : List UInt8} (hu : uq = true) : ordE uq c a b = c := by rw [ordE, if_neg fun e => by rw [hu] at e; cases e.2]
theorem entry_by {u v : V} (hu : rightV 32 u = true) (hv : rightV 32 v = true) (wu : WfV u) (wv : WfV v) (cn xn : List UInt8) (uq : Bool) (a b : List UInt8) : byL (entryL cn xn uq u a) (entryL cn xn uq v b) = ordE uq (cmpV u v) a b := by
  simp only [entryL, List.append_assoc, byL_append]
  rcases ordV_cmp 32 u v hu hv wu wv with ⟨rfl, hc⟩ | ⟨_, hc, hall⟩
  · rw [byL_append]
    cases uq with
    | true => rw [ordE_uq rfl, hc]; exact byL_self []
    | false =>
      rw [ordE_zero hc rfl]
      by_cases hab : a = b
      · subst hab
        exact (byL_self _).trans (byL_self _).symm
      · have := byL_encT hab [] []
        simpa using this
  · rw [hall, ordE_ne hc]
theorem byL_less (x y : List UInt8) : Go.Op.bytesLess x y = decide (byL x y < 0) := by
  unfold byL
  by_cases h : Go.Op.bytesLess x y = true
  · rw [h]; rfl
  · rw [Bool.not_eq_true] at h
    rw [h]
    cases hq : (x == y) <;> simp
theorem byL_eq (x y : List UInt8) : (x = y) = (byL x y = 0) := propext ⟨fun h => by rw [h]; exact byL_self _, byL_zero⟩
theorem entry_begins (cn xn : List UInt8) (uq : Bool) (v : V) (id : List UInt8) : begB (entryL cn xn uq v id) (keyL [[105], cn, xn]) = true := by
  rw [entryL, List.append_assoc]; exact begB_app _ _
theorem doc_begins (cn id : List UInt8) : begB (keyL [[100], cn, id]) (keyL [[100], cn]) = true := by
  have : keyL [[100], cn, id] = keyL [[100], cn] ++ encT id := by simp [keyL]
  rw [this]; exact begB_app _ _
theorem doc_same (cn a b : List UInt8) : (keyL [[100], cn, a] = keyL [[100], cn, b]) = (a = b) := propext ⟨fun h => by
  have h' : keyL [[100], cn, a] ++ [] = keyL [[100], cn, b] ++ [] := by rw [List.append_nil, List.append_nil]; exact h
  exact (keyL_head (keyL_head (keyL_head h').2).2).1, fun h => by rw [h]⟩
end Go.AV.Sch
