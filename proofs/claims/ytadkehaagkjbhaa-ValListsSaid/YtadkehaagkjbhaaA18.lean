/-
  The AV logic, part 18: a call that writes two older blocks, and what it has made for itself is forgotten.
-/
import Derived.Test.YtadkehaagkjbhaaA17
namespace Go.AV
/-- Two blocks written. -/
def HS.set2 (H : HS) (i : Nat) (b : HB) (j : Nat) (c : HB) : HS := (H.setB i b).setB j c
theorem setB_comm {H : HS} {i j : Nat} {b c : HB} (h : i ≠ j) : (H.setB i b).setB j c = (H.setB j c).setB i b := by
  simp only [HS.setB, HS.mk.injEq, and_true]
  exact List.set_comm _ _ h
section
variable {H Hs : HS} {i j k : Nat} {b b' b0 c c' c0 x : HB}
theorem set2_at1 (h : i ≠ j) (hi : H.blks[i]? = some b0) : (H.set2 i b j c).blks[i]? = some b := by
  unfold HS.set2; rw [setB_ne h]; exact setB_at hi
theorem set2_at2 (h : i ≠ j) (hj : H.blks[j]? = some c0) : (H.set2 i b j c).blks[j]? = some c := by
  unfold HS.set2; exact setB_at (by rw [setB_ne (Ne.symm h)]; exact hj)
theorem set2_ne (hi : k ≠ i) (hj : k ≠ j) : (H.set2 i b j c).blks[k]? = H.blks[k]? := by
  unfold HS.set2; rw [setB_ne hj, setB_ne hi]
theorem set2_set1 (h : i ≠ j) : (H.set2 i b j c).setB i b' = H.set2 i b' j c := by
  unfold HS.set2; rw [← setB_comm h, setB_setB]
theorem set2_set2 : (H.set2 i b j c).setB j c' = H.set2 i b j c' := by
  unfold HS.set2; rw [setB_setB]
theorem set2_again (h : i ≠ j) : (H.set2 i b j c).set2 i b' j c' = H.set2 i b' j c' := by
  show ((H.set2 i b j c).setB i b').setB j c' = _
  rw [set2_set1 h, set2_set2]
theorem set2_self (_ : i ≠ j) (hi : H.blks[i]? = some b) (hj : H.blks[j]? = some c) : H.set2 i b j c = H := by
  unfold HS.set2; rw [setB_self hi, setB_self hj]
theorem set2_nb : (H.set2 i b j c).nb = H.nb := by unfold HS.set2; rw [setB_nb, setB_nb]
theorem set2_toks : (H.set2 i b j c).toks = H.toks := rfl
theorem Ext.at (h : Ext Hs H) (hi : Hs.blks[i]? = some x) : H.blks[i]? = some x := by
  obtain ⟨l, hl⟩ := h.blks
  rw [hl, List.getElem?_append_left (List.getElem?_eq_some_iff.1 hi).1]; exact hi
theorem Ext.under (h : Ext Hs H) (hi : i < Hs.nb) : Ext (Hs.setB i b) (H.setB i b) := by
  obtain ⟨l, hl⟩ := h.blks
  exact ⟨⟨l, by simp only [HS.setB, hl]; exact List.set_append_left _ _ hi⟩, h.toks⟩
theorem Ext.set2 (h : Ext Hs H) (hi : i < Hs.nb) (hj : j < Hs.nb) : Ext (Hs.set2 i b j c) (H.set2 i b j c) := by
  unfold HS.set2
  exact (h.under hi).under (by rw [setB_nb]; exact hj)
/-- The state behind two blocks written, written again. -/
theorem Ext.set2' (h : Ext (Hs.set2 i b j c) H) (hne : i ≠ j) (hi : i < Hs.nb) (hj : j < Hs.nb) : Ext (Hs.set2 i b' j c') (H.set2 i b' j c') := by
  have := h.set2 (b := b') (c := c') (by rw [set2_nb]; exact hi) (by rw [set2_nb]; exact hj)
  rwa [set2_again hne] at this
theorem Ext.set1' (h : Ext (Hs.set2 i b j c) H) (hne : i ≠ j) (hi : i < Hs.nb) : Ext (Hs.set2 i b' j c) (H.setB i b') := by
  have := h.under (b := b') (i := i) (by rw [set2_nb]; exact hi)
  rwa [set2_set1 hne] at this
theorem Ext.setj' (h : Ext (Hs.set2 i b j c) H) (hj : j < Hs.nb) : Ext (Hs.set2 i b j c') (H.setB j c') := by
  have := h.under (b := c') (i := j) (by rw [set2_nb]; exact hj)
  rwa [set2_set2] at this
theorem lt_nb (h : H.blks[i]? = some b) : i < H.nb := (List.getElem?_eq_some_iff.1 h).1
end
def DVs (b : HB) : Prop := ∀ v ∈ b.cs, ∃ x, v = .d x
theorem ACalls.tidy2 {P : Program} {f : FuncId} {args : List AV} {H : HS} {i j : Nat} {b c : HB} {x : DV} (hi : i < H.nb) (hj : j < H.nb) (hb : ∀ v ∈ b.cs, Fits H.blks.length H.toks.length v) (hc : ∀ v ∈ c.cs, Fits H.blks.length H.toks.length v)
    (h : ACalls P f args H fun av H' => Weak av (.d x) ∧ Ext (H.set2 i b j c) H') : ACalls P f args H (Ret (.d x) (H.set2 i b j c)) := by
  refine ACalls.tidyB ((h.weak fun v H' ⟨h1, h2⟩ => ⟨_, h1, rfl, h2⟩ : ACalls P f args H fun av H' => av = .d x ∧ Ext (H.set2 i b j c) H').mono fun av H' ⟨h1, h2⟩ => ?_)
  subst h1
  refine ⟨H.set2 i b j c, .d x, by simp [HS.set2, HS.setB], rfl, fun k bk hk m hm => ?_, h2, rfl, rfl⟩
  by_cases h1 : k = j
  · subst h1
    have e : (H.set2 i b k c).blks[k]? = some c := by
      unfold HS.set2
      obtain ⟨y, hy⟩ : ∃ y, (H.setB i b).blks[k]? = some y := ⟨_, List.getElem?_eq_getElem (by have := setB_nb (H := H) (id := i) (b := b); simp only [HS.nb] at this hj ⊢; omega)⟩
      exact setB_at hy
    rw [e] at hk
    cases hk
    exact .inr (hc _ (List.getElem_mem hm))
  · by_cases h2 : k = i
    · subst h2
      have e : (H.set2 k b j c).blks[k]? = some b := by
        unfold HS.set2
        rw [setB_ne h1]
        obtain ⟨y, hy⟩ : ∃ y, H.blks[k]? = some y := ⟨_, List.getElem?_eq_getElem hi⟩
        exact setB_at hy
      rw [e] at hk
      cases hk
      exact .inr (hb _ (List.getElem_mem hm))
    · rw [set2_ne h2 h1] at hk
      exact .inl hk
end Go.AV
