/-
  The plain laws of layer 3, part 5.
-/
import Derived.Test.YtlphmahlchgafaaOrdPlain4
namespace Go.AV.Ord
theorem keyL_ge : ∀ ps : List (List UInt8), (ps.map List.length).sum + 2 * ps.length ≤ (keyL ps).length
  | [] => by simp
  | p :: ps => by
    have h1 := keyL_ge ps
    have h2 := encT_len p
    have h3 := enc0_len p
    simp only [keyL, List.flatMap_cons, List.length_append, List.map_cons, List.sum_cons, List.length_cons] at h1 ⊢
    omega
theorem parts_none {k : List UInt8} (h : ¬ partsE k = 0) : partsL k = none := by
  unfold partsE at h
  cases hp : partsL k with
  | none => rfl
  | some ps => simp [hp] at h
theorem parts_back {k : List UInt8} (h : partsE k = 0) : keyL (partsA k) = k := by
  unfold partsE at h
  cases hp : partsL k with
  | none => simp [hp] at h
  | some ps => simp only [partsA, hp, Option.getD_some]; exact keyL_parts _ k ps (Nat.le_refl _) hp
theorem scan0 {k : List UInt8} {i : Nat} {e f : UInt8} (he : k[i]? = some e) (hf : k[i + 1]? = some f) (he0 : e = 0) (hff : ((f.toNat : Int) == 255) = true) (h : ∃ o, cutO o (k.drop i) = none) : ∃ o, cutO o (k.drop (i + 2)) = none := by
  obtain ⟨o, ho⟩ := h
  have hf2 : f = 255 := by apply UInt8.toNat_inj.1; show f.toNat = 255; simp at hff; omega
  subst he0 hf2
  rw [drop_two he hf] at ho
  exact ⟨_, cutO_zero.symm.trans ho⟩
theorem scan1 {k : List UInt8} {i : Nat} {e : UInt8} (he : k[i]? = some e) (he0 : e ≠ 0) (h : ∃ o, cutO o (k.drop i) = none) : ∃ o, cutO o (k.drop (i + 1)) = none := by
  obtain ⟨o, ho⟩ := h
  rw [drop_one he] at ho
  exact ⟨_, (cutO_step he0).symm.trans ho⟩
theorem scan_end {k : List UInt8} {m : Nat} {c d : UInt8} (hc : k[m + 1]? = some c) (hd : k[m]? = some d) (hc1 : c = 1) (hd0 : d = 0) (h : ∃ o, cutO o (k.drop m) = none) : False := by
  obtain ⟨o, ho⟩ := h
  subst hc1 hd0
  rw [drop_two hd hc, cutO_end] at ho
  cases ho
theorem byte_eq {c : UInt8} {n : Nat} (hn : n < 256) (h : (c.toNat : Int) = n) : c = UInt8.ofNat n := by
  apply UInt8.toNat_inj.1
  rw [UInt8.toNat_ofNat_of_lt' hn]
  omega
end Go.AV.Ord
