/-
  Plain theory of layer 13 (schema): a collection as bytes, and read again.
-/
import Derived.Test.YtjamnhofbkgblaaOctAV
import Derived.Test.YtjamnhofbkgblaaA13
namespace Go.AV.Oct
open Go.AV.Ord
theorem szN_eq {x k : Nat} (h1 : 256 ^ k ≤ x) (h2 : x < 256 ^ (k + 1)) : szN x = k + 1 := by
  have h3 := szN_le _ _ h2
  have h4 := szN_lt x
  have h5 : ¬ szN x ≤ k := fun h => by
    have := Nat.pow_le_pow_right (n := 256) (by decide) h
    omega
  omega
theorem val_head {c : UInt8} {r : List UInt8} (h : c ≠ 0) : 256 ^ r.length ≤ val (c :: r) := by
  rw [val_cons]
  have : 0 < c.toNat := by
    rcases Nat.eq_zero_or_pos c.toNat with h0 | h0
    · exact absurd (UInt8.toNat_inj.1 (by rw [h0]; rfl)) h
    · exact h0
  have := Nat.mul_le_mul_right (256 ^ r.length) this
  omega
/-- What a reader has read is what is written of it. -/
theorem numB_back {c : UInt8} {r : List UInt8} (h : badN (c :: r) = false) : c :: r = numB (val (r.take c.toNat)) ++ r.drop c.toNat := by
  have ⟨h1, h2⟩ := badN_false h
  have hl : (r.take c.toNat).length = c.toNat := by simp; omega
  have hz : szN (val (r.take c.toNat)) = c.toNat := by
    rcases Nat.eq_zero_or_pos c.toNat with h0 | h0
    · rw [h0]; simp [val, szN_zero]
    · obtain ⟨d, q, rfl⟩ : ∃ d q, r = d :: q := List.exists_cons_of_ne_nil (by intro e; subst e; simp at h2; omega)
      have hd : d ≠ 0 := by
        intro e
        subst e
        simp [badN, h0] at h
      obtain ⟨k, hk⟩ : ∃ k, c.toNat = k + 1 := ⟨c.toNat - 1, by omega⟩
      rw [hk] at hl ⊢
      rw [List.take_succ_cons] at hl ⊢
      have hl' : (q.take k).length = k := by simpa using hl
      have h3 := val_head (r := q.take k) hd
      have h4 := val_lt (d :: q.take k)
      rw [hl'] at h3
      rw [List.length_cons, hl'] at h4
      exact szN_eq h3 h4
  have hb := be_val (r.take c.toNat)
  rw [hl] at hb
  unfold numB
  rw [hz, hb]
  have hc : UInt8.ofNat c.toNat = c := by simp
  rw [hc]
  simp
theorem rNum_back {most : Int} {s s' : List UInt8} {x : Nat} (h : rNum most (s, false) = (x, (s', false))) : s = numB x ++ s' ∧ (x : Int) ≤ max most 0 := by
  simp only [rNum, Bool.false_eq_true, if_false] at h
  split at h
  · cases h
  · rename_i hb
    have hb' : badN s = false := by simpa using hb
    split at h
    · cases h
    · rename_i hx
      cases s with
      | nil => cases hb'
      | cons c r =>
        simp only [List.headD_cons, List.drop_succ_cons, List.drop_zero, Nat.add_comm 1, Prod.mk.injEq] at h hx
        obtain ⟨rfl, rfl, _⟩ := h
        exact ⟨numB_back hb', by omega⟩
theorem rNum_bad' (most : Int) (s : List UInt8) : (rNum most (s, true)).2 = (s, true) := by simp [rNum]
theorem rText_back {most : Int} {s s' t : List UInt8} (h : rText most (s, false) = (t, (s', false))) : s = textB t ++ s' ∧ (t.length : Int) ≤ max most 0 := by
  unfold rText at h
  obtain ⟨n, ⟨s1, b1⟩, hr⟩ : ∃ n st, rNum most (s, false) = (n, st) := ⟨_, _, rfl⟩
  simp only [hr] at h
  split at h
  · rename_i hb
    simp at h hb
    obtain ⟨_, _, h⟩ := h
    rw [hb] at h; cases h
  · rename_i hb
    have hb' : b1 = false := by simpa using hb
    subst hb'
    split at h
    · cases h
    · rename_i hn
      simp only [Prod.mk.injEq] at h
      obtain ⟨rfl, rfl, _⟩ := h
      obtain ⟨h1, h2⟩ := rNum_back hr
      have hl : (s1.take n).length = n := by simp at hn ⊢; omega
      refine ⟨?_, by rw [hl]; exact h2⟩
      rw [textB, hl, List.append_assoc, List.take_append_drop]
      exact h1
theorem rText_bad (most : Int) (s : List UInt8) : rText most (s, true) = ([], (s, true)) := by simp [rText, rNum]
theorem rFlag_back {s s' : List UInt8} {b : Bool} (h : rFlag (s, false) = (b, (s', false))) : s = flagB b ++ s' := by
  cases s with
  | nil => simp [rFlag] at h
  | cons c r =>
    simp only [rFlag, Bool.false_eq_true, if_false] at h
    split at h
    · simp at h
    · rename_i hc
      simp only [Prod.mk.injEq] at h
      obtain ⟨rfl, rfl, _⟩ := h
      have : c = 0 ∨ c = 1 := by
        have h2 : c.toNat = 0 ∨ c.toNat = 1 := by omega
        rcases h2 with h2 | h2
        · exact .inl (UInt8.toNat_inj.1 (by rw [h2]; rfl))
        · exact .inr (UInt8.toNat_inj.1 (by rw [h2]; rfl))
      rcases this with rfl | rfl <;> rfl
theorem rFlag_bad (s : List UInt8) : rFlag (s, true) = (false, (s, true)) := by simp [rFlag]
end Go.AV.Oct
namespace Go.AV.Sch
open Go.AV.Ord Go.AV.Oct
structure Ix where
  name : List UInt8
  field : List UInt8
  uniq : Bool
def ixC (x : Ix) : List DV := [S x.name, S x.field, TF x.uniq]
def ixD (x : Ix) : DV := .agg (ixC x)
def ixB (x : Ix) : List UInt8 := textB x.name ++ textB x.field ++ flagB x.uniq
def encC (xs : List Ix) : List UInt8 := numB xs.length ++ xs.flatMap ixB
/-- One index read. -/
def rIx (st : RS) : Ix × RS :=
  let a := rText 40 st
  let b := rText 40 a.2
  let c := rFlag b.2
  (⟨a.1, b.1, c.1⟩, c.2)
theorem rIx_back {s s' : List UInt8} {x : Ix} (h : rIx (s, false) = (x, (s', false))) : s = ixB x ++ s' := by
  unfold rIx at h
  obtain ⟨a, ⟨s1, b1⟩, h1⟩ : ∃ n st, rText 40 (s, false) = (n, st) := ⟨_, _, rfl⟩
  obtain ⟨b, ⟨s2, b2⟩, h2⟩ : ∃ n st, rText 40 (s1, b1) = (n, st) := ⟨_, _, rfl⟩
  obtain ⟨c, ⟨s3, b3⟩, h3⟩ : ∃ n st, rFlag (s2, b2) = (n, st) := ⟨_, _, rfl⟩
  simp only [h1, h2, h3, Prod.mk.injEq] at h
  obtain ⟨rfl, rfl, rfl⟩ := h
  cases b1 with
  | true => rw [rText_bad] at h2; cases h2; rw [rFlag_bad] at h3; cases h3
  | false =>
    cases b2 with
    | true => rw [rFlag_bad] at h3; cases h3
    | false =>
      rw [(rText_back h1).1, (rText_back h2).1, rFlag_back h3]
      simp [ixB]
theorem rIx_bad (s : List UInt8) : (rIx (s, true)).2 = (s, true) := by simp [rIx, rText_bad, rFlag_bad]
def rIxs : Nat → RS → List Ix × RS
  | 0, st => ([], st)
  | n + 1, st => let r := rIxs n st; let x := rIx r.2; (r.1 ++ [x.1], x.2)
theorem rIxs_len : ∀ (n : Nat) (st : RS), (rIxs n st).1.length = n
  | 0, _ => rfl
  | n + 1, st => by simp [rIxs, rIxs_len n st]
theorem rIxs_back : ∀ (n : Nat) (s : List UInt8), (rIxs n (s, false)).2.2 = false → s = (rIxs n (s, false)).1.flatMap ixB ++ (rIxs n (s, false)).2.1
  | 0, s, _ => rfl
  | n + 1, s, h => by
    have ih := rIxs_back n s
    simp only [rIxs] at h ⊢
    obtain ⟨xs, ⟨s1, b1⟩, h1⟩ : ∃ xs st, rIxs n (s, false) = (xs, st) := ⟨_, _, rfl⟩
    rw [h1] at h ih ⊢
    cases b1 with
    | true => rw [rIx_bad] at h; cases h
    | false =>
      have ih' := ih rfl
      obtain ⟨x, ⟨s2, b2⟩, h2⟩ : ∃ x st, rIx (s1, false) = (x, st) := ⟨_, _, rfl⟩
      simp only [h2] at h ⊢
      subst h
      have h3 := rIx_back h2
      simp only [List.flatMap_append, List.flatMap_cons, List.flatMap_nil, List.append_nil, List.append_assoc]
      rw [← h3]
      exact ih'
theorem rIxs_bad : ∀ (n : Nat) (s : List UInt8), (rIxs n (s, true)).2 = (s, true)
  | 0, _ => rfl
  | n + 1, s => by simp only [rIxs, rIxs_bad n s]; exact rIx_bad s
def nameB (s : List UInt8) : Bool := !(s == []) && decide (s.length ≤ 40)
def rightIx (xs : List Ix) (i : Nat) (x : Ix) : Bool := nameB x.name && decide (x.field.length ≤ 40) && !((xs.take i).any fun y => x.name == y.name)
def rightC (name : List UInt8) (xs : List Ix) : Bool := nameB name && decide (xs.length ≤ 8) && (List.range xs.length).all fun i => match xs[i]? with | some x => rightIx xs i x | none => true
/-- What is read of bytes. -/
def decC (s : List UInt8) : List Ix × RS := let r := rNum 8 (s, false); rIxs r.1 r.2
theorem decC_back {s : List UInt8} (h : rEnd (decC s).2 = 0) : encC (decC s).1 = s := by
  unfold decC at h ⊢
  obtain ⟨n, ⟨s1, b1⟩, h1⟩ : ∃ n st, rNum 8 (s, false) = (n, st) := ⟨_, _, rfl⟩
  rw [h1] at h ⊢
  simp only [] at h ⊢
  have hend : (rIxs n (s1, b1)).2 = ([], false) := by
    unfold rEnd rErr at h
    split at h
    · cases h
    · rename_i hl
      split at h
      · cases h
      · rename_i hb
        have e1 : (rIxs n (s1, b1)).2.1 = [] := List.length_eq_zero_iff.1 (by omega)
        have e2 : (rIxs n (s1, b1)).2.2 = false := by simpa using hb
        exact Prod.ext e1 e2
  cases b1 with
  | true => rw [rIxs_bad] at hend; cases hend
  | false =>
    have h2 := rIxs_back n s1 (by rw [hend])
    rw [hend, List.append_nil] at h2
    unfold encC
    rw [rIxs_len, ← h2, ← (rNum_back h1).1]
end Go.AV.Sch
namespace Go.AV.Sch
open Go.AV.Ord Go.AV.Oct
def rightAt (xs : List Ix) (i : Nat) : Bool := match xs[i]? with | some x => rightIx xs i x | none => true
theorem rightC_eq (name : List UInt8) (xs : List Ix) : rightC name xs = (nameB name && decide (xs.length ≤ 8) && (List.range xs.length).all (rightAt xs)) := rfl
theorem rightAt_some {xs : List Ix} {i : Nat} {x : Ix} (h : xs[i]? = some x) : rightAt xs i = rightIx xs i x := by simp [rightAt, h]
theorem right_step {xs : List Ix} {k : Nat} (h : (List.range k).all (rightAt xs) = true) (h1 : rightAt xs k = true) : (List.range (k + 1)).all (rightAt xs) = true := by
  rw [List.range_succ, List.all_append, h]; simp [h1]
theorem right_bad {name : List UInt8} {xs : List Ix} {k : Nat} (hk : k < xs.length) (h1 : rightAt xs k = false) : rightC name xs = false := by
  rw [rightC_eq]
  have : (List.range xs.length).all (rightAt xs) = false := by
    rw [List.all_eq_false]
    exact ⟨k, by simpa using hk, by simp [h1]⟩
  simp [this]
theorem any_map (x : Ix) (xs : List Ix) (k : Nat) : ((xs.take k).any fun y => x.name == y.name) = ((xs.take k).any fun y => x.name == y.name) := rfl
end Go.AV.Sch
namespace Go.AV.Sch
theorem nameB_ne {s : List UInt8} (h : ¬ s = []) : nameB s = decide ((s.length : Int) ≤ 40) := by
  unfold nameB
  rw [Bool.eq_iff_iff]
  simp [h]
  omega
end Go.AV.Sch
namespace Go.AV.Sch
open Go.AV.Ord Go.AV.Oct
def encK (xs : List Ix) (k : Nat) : List UInt8 := numB xs.length ++ (xs.take k).flatMap ixB
theorem encK_zero (xs : List Ix) : encK xs 0 = numB xs.length := by simp [encK]
theorem encK_full (xs : List Ix) : encK xs xs.length = encC xs := by simp [encK, encC]
theorem encK_step {xs : List Ix} {k : Nat} {y : Ix} (h : xs[k]? = some y) : encK xs (k + 1) = encK xs k ++ textB y.name ++ textB y.field ++ flagB y.uniq := by
  simp [encK, take_snoc h, ixB]
theorem encK_len {xs : List Ix} {k : Nat} {y : Ix} (h : xs[k]? = some y) : (encK xs k).length + (ixB y).length ≤ (encC xs).length := by
  have hk : k < xs.length := (List.getElem?_eq_some_iff.1 h).1
  have h1 : xs.take k ++ (y :: xs.drop (k + 1)) = xs := by
    obtain ⟨h3, rfl⟩ := List.getElem?_eq_some_iff.1 h
    rw [← List.drop_eq_getElem_cons h3, List.take_append_drop]
  have h2 : xs.flatMap ixB = (xs.take k).flatMap ixB ++ (ixB y ++ (xs.drop (k + 1)).flatMap ixB) := by
    conv => lhs; rw [← h1]
    simp
  have e : (encC xs).length = (numB xs.length).length + ((xs.take k).flatMap ixB).length + (ixB y).length + ((xs.drop (k + 1)).flatMap ixB).length := by
    unfold encC
    rw [h2]
    simp only [List.length_append]
    omega
  have e2 : (encK xs k).length = (numB xs.length).length + ((xs.take k).flatMap ixB).length := by simp only [encK, List.length_append]
  omega
theorem textB_ge (s : List UInt8) : s.length + 1 ≤ (textB s).length := by simp [textB, numB]
end Go.AV.Sch
namespace Go.AV.Sch
open Go.AV.Ord Go.AV.Oct
def decOk (name s : List UInt8) : Bool := rEnd (decC s).2 == 0 && rightC name (decC s).1
def decErr (name s : List UInt8) : Int := if decOk name s then 0 else 2
def decName (name s : List UInt8) : List UInt8 := if decOk name s then name else []
def decIxs (name s : List UInt8) : List Ix := if decOk name s then (decC s).1 else []
/-- The state of schema.Decode. -/
structure DecS (Hs : HS) (tC tR : TypeId) (H : HS) (name : List UInt8) (v : AV) (t : Option Nat) (xs : List Ix) (st : RS) : Prop where
  e1 : ∃ a b, H.blks[Hs.nb]? = some ⟨tC, [a, b], false⟩
  e2 : H.blks[Hs.nb + 1]? = some (RB tR st)
  e3 : H.blks[Hs.nb + 2]? = some ⟨tC, [.d (S name), v], false⟩
  app : App v t 3 (xs.map ixD)
  ok : H.ok t xs.length
  new : NewTok Hs t
  ext : Ext Hs H
theorem DecS.step {Hs H : HS} {tC tR : TypeId} {name : List UInt8} {v : AV} {t : Option Nat} {xs : List Ix} {st st1 st2 st3 : RS} {x : Ix} {m : Nat} (h : DecS Hs tC tR H name v t xs st) (hm : m = xs.length + 1) :
    DecS Hs tC tR (((((H.setB (Hs.nb + 1) (RB tR st1)).setB (Hs.nb + 1) (RB tR st2)).setB (Hs.nb + 1) (RB tR st3)).up t m).setB (Hs.nb + 2) ⟨tC, [.d (S name), .own (some (H.tk t)) 3 (xs.map ixD ++ [ixD x])], false⟩) name (.own (some (H.tk t)) 3 (xs.map ixD ++ [ixD x])) (some (H.tk t)) (xs ++ [x]) st3 := by
  subst hm
  obtain ⟨⟨a, b, e1⟩, e2, e3, app, ok, new, ext⟩ := h
  have hx := ((((ext.setB (b := RB tR st1) (Nat.le_succ _)).setB (b := RB tR st2) (Nat.le_succ Hs.nb)).setB (b := RB tR st3) (Nat.le_succ Hs.nb)).upN (n := xs.length + 1) new ok)
  refine ⟨⟨a, b, ?_⟩, ?_, ?_, ?_, ?_, hx.2, hx.1.setB (by omega)⟩
  · rw [setB_ne (by omega), HS.up_blks, setB_ne (by omega), setB_ne (by omega), setB_ne (by omega)]; exact e1
  · rw [setB_ne (by omega), HS.up_blks]
    exact setB_at (setB_at (setB_at e2))
  · refine setB_at (b := ⟨tC, [.d (S name), v], false⟩) ?_
    rw [HS.up_blks, setB_ne (by omega), setB_ne (by omega), setB_ne (by omega)]; exact e3
  · have := App.own (some (H.tk t)) 3 (xs.map ixD ++ [ixD x])
    simpa using this
  · have := HS.ok_up (((H.setB (Hs.nb + 1) (RB tR st1)).setB (Hs.nb + 1) (RB tR st2)).setB (Hs.nb + 1) (RB tR st3)) t (xs.length + 1) ok
    rw [List.length_append]
    exact this
theorem DecS.start (Hs : HS) (tC tR : TypeId) (name s : List UInt8) (a b c d : AV) (st : RS) :
    DecS Hs tC tR ((((Hs.push tC [a, b]).push tR [.d (S s), .d (TF false)]).push tC [c, d]).setB (Hs.nb + 2) ⟨tC, [.d (S name), nilS], false⟩ |>.setB (Hs.nb + 1) (RB tR st)) name nilS none [] st := by
  have n1 : (Hs.push tC [a, b]).nb = Hs.nb + 1 := push_nb
  have n2 : ((Hs.push tC [a, b]).push tR [.d (S s), .d (TF false)]).nb = Hs.nb + 2 := by rw [push_nb, n1]
  have e1 : (Hs.push tC [a, b]).blks[Hs.nb]? = some ⟨tC, [a, b], false⟩ := push_at
  have e2 : ((Hs.push tC [a, b]).push tR [.d (S s), .d (TF false)]).blks[Hs.nb + 1]? = some (RB tR (s, false)) := by rw [← n1]; exact push_at
  have e3 : (((Hs.push tC [a, b]).push tR [.d (S s), .d (TF false)]).push tC [c, d]).blks[Hs.nb + 2]? = some ⟨tC, [c, d], false⟩ := by rw [← n2]; exact push_at
  refine ⟨⟨a, b, ?_⟩, ?_, ?_, App.nil _, HS.ok_none _ _, NewTok.none _, ?_⟩
  · rw [setB_ne (by omega), setB_ne (by omega)]; exact push_ne (push_ne e1)
  · exact setB_at (b := RB tR (s, false)) (by rw [setB_ne (by omega)]; exact push_ne e2)
  · rw [setB_ne (by omega)]; exact setB_at e3
  · exact ((((((Ext.refl Hs).push _ _).push _ _).push _ _).setB (by omega)).setB (by omega))
end Go.AV.Sch
namespace Go.AV.Sch
open Go.AV.Ord Go.AV.Oct
theorem dec_ok {name s : List UInt8} (h : decOk name s = true) : decName name s = name ∧ decIxs name s = (decC s).1 ∧ rightC name (decC s).1 = true ∧ encC (decC s).1 = s ∧ (decC s).1.length ≤ 8 := by
  have h' := h
  simp only [decOk, Bool.and_eq_true, beq_iff_eq] at h'
  refine ⟨by simp [decName, h], by simp [decIxs, h], h'.2, decC_back h'.1, ?_⟩
  have h2 := h'.2
  rw [rightC_eq] at h2
  simp only [Bool.and_eq_true, decide_eq_true_eq] at h2
  exact h2.1.2
theorem dec_err {name s : List UInt8} (h : ¬ decErr name s = 0) : decOk name s = false ∧ decErr name s = 2 ∧ decName name s = [] ∧ decIxs name s = [] := by
  cases hd : decOk name s with
  | true => simp [decErr, hd] at h
  | false => simp [decErr, decName, decIxs, hd]
theorem dec_err0 {name s : List UInt8} (h : decErr name s = 0) : decOk name s = true := by
  cases hd : decOk name s with
  | true => rfl
  | false => simp [decErr, hd] at h
end Go.AV.Sch
