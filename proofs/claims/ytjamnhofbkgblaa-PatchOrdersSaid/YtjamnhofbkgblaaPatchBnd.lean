/-
  Plain theory of layer 8 (patch): how many parts a document has, what is done to it.
-/
import Derived.Test.YtjamnhofbkgblaaPatchPlain
namespace Go.AV.Patch
open Go.AV.Ord Go.AV.Oct Go.AV.Val
/-- So many parts at most, at any depth. -/
inductive BndV (m : Nat) : V → Prop
  | mk (v : V) (hl : v.list.length ≤ m) (hf : v.fields.length ≤ m) (h1 : ∀ x ∈ v.list, BndV m x) (h2 : ∀ f ∈ v.fields, BndV m f.val) : BndV m v
theorem BndV.ll {m : Nat} {v : V} (h : BndV m v) : v.list.length ≤ m := by cases h; assumption
theorem BndV.fl {m : Nat} {v : V} (h : BndV m v) : v.fields.length ≤ m := by cases h; assumption
theorem BndV.l {m : Nat} {v : V} (h : BndV m v) : ∀ x ∈ v.list, BndV m x := by cases h; assumption
theorem BndV.f {m : Nat} {v : V} (h : BndV m v) : ∀ f ∈ v.fields, BndV m f.val := by cases h; assumption
theorem BndV.small {m : Nat} {v : V} (h : BndV m v) (hm : m ≤ 1000000) : SmallV v := by
  induction h with
  | mk v hl hf _ _ ih1 ih2 =>
    rw [v.eta]
    exact .mk _ _ _ _ _ _ (by omega) (by omega) ih1 ih2
theorem BndV.mono {m m' : Nat} {v : V} (h : BndV m v) (hm : m ≤ m') : BndV m' v := by
  induction h with
  | mk v hl hf _ _ ih1 ih2 => exact .mk v (by omega) (by omega) ih1 ih2
theorem few_bnd : ∀ (n : Nat) (v : V), fewV n v = true → BndV 8 v
  | 0, _, h => by simp [fewV] at h
  | n + 1, v, h => by
    obtain ⟨h1, h2, _, h4, h5⟩ := few_parts h
    exact .mk v h1 h2 (fun x hx => few_bnd n x (h4 x hx)) (fun f hf => few_bnd n f.val (h5 f hf).2)
theorem BndV.leaf {m : Nat} {v : V} (h1 : v.list = []) (h2 : v.fields = []) : BndV m v := .mk v (by rw [h1]; exact Nat.zero_le _) (by rw [h2]; exact Nat.zero_le _) (by rw [h1]; intro x hx; cases hx) (by rw [h2]; intro x hx; cases hx)
theorem BndV.v0 {m : Nat} : BndV m V0 := .leaf rfl rfl
theorem BndV.int {m : Nat} (n : Int) : BndV m (ofInt n) := .leaf rfl rfl
theorem getF_mem : ∀ {l : List F} {n : List UInt8} {x : V}, getF l n = some x → ∃ f ∈ l, f.val = x
  | g :: l, n, x, h => by
    rw [getF_cons] at h
    split at h
    · exact ⟨g, by simp, Option.some.inj h⟩
    · obtain ⟨f, hf, e⟩ := getF_mem h
      exact ⟨f, by simp [hf], e⟩
theorem BndV.get {m : Nat} {v : V} (h : BndV m v) (n : List UInt8) : BndV m (getV v n).1 := by
  unfold getV
  split
  · rename_i x hx
    obtain ⟨f, hf, rfl⟩ := getF_mem hx
    exact h.f f hf
  · exact .v0
theorem BndV.with_ {m : Nat} {v x : V} (h : BndV m v) (hx : BndV (m + 1) x) (n : List UInt8) : BndV (m + 1) (withV v n x) := by
  unfold withV
  split
  · have h1 := ofF_len (v.fields ++ [F.mk n x])
    have h2 := h.fl
    refine .mk _ (Nat.zero_le _) ?_ (fun y hy => by cases hy) (fun f hf => ?_)
    · show (ofF (v.fields ++ [F.mk n x])).length ≤ m + 1
      simp at h1; omega
    · have hf' : f ∈ v.fields ++ [F.mk n x] := ofF_mem hf
      rcases List.mem_append.1 hf' with hf' | hf'
      · exact (h.f f hf').mono (by omega)
      · simp at hf'; subst hf'; exact hx
  · exact h.mono (by omega)
theorem BndV.without {m : Nat} {v : V} (h : BndV m v) (n : List UInt8) : BndV m (withoutV v n) :=
  .mk _ h.ll (Nat.le_trans (List.length_filter_le _ _) h.fl) h.l (fun f hf => h.f f (List.mem_filter.1 hf).1)
theorem BndV.last {m : Nat} {v : V} {o : Opn} (h : BndV m v) (ho : BndV m o.val) (n : List UInt8) : BndV (m + 1) (lastV o v n).1 := by
  unfold lastV
  split
  · exact h.with_ (ho.mono (by omega)) n
  split
  · exact .v0
  split
  · exact (h.without n).mono (by omega)
  split
  · exact .v0
  split
  · exact .v0
  · exact h.with_ (.int _) n
theorem BndV.at_ {m : Nat} {o : Opn} (ho : BndV m o.val) : ∀ (p : List (List UInt8)) {v : V}, BndV m v → BndV (m + 1) (atV o v p).1
  | [], v, h => by unfold atV; split <;> exact .v0
  | [n], v, h => by
    unfold atV
    split
    · exact .v0
    · exact h.last ho n
  | n :: k :: p, v, h => by
    unfold atV
    split
    · exact .v0
    split
    · exact .v0
    split
    · exact .v0
    · exact h.with_ (BndV.at_ ho (k :: p) (h.get n)) n
theorem BndV.all : ∀ (l : List Opn) {m : Nat} {v : V}, BndV m v → (∀ o ∈ l, BndV m o.val) → BndV (m + l.length) (allV v l).1
  | [], m, v, h, _ => by
    rw [allV]
    split
    · exact h
    · exact .v0
  | o :: l, m, v, h, ho => by
    rw [allV_cons]
    split
    · exact .v0
    · have := BndV.all l (BndV.at_ (ho o (by simp)) o.path h) fun x hx => (ho x (by simp [hx])).mono (by omega)
      rwa [List.length_cons, show m + (l.length + 1) = m + 1 + l.length by omega]
theorem BndV.apply {m : Nat} {v : V} {l : List Opn} (h : BndV m v) (ho : ∀ o ∈ l, BndV m o.val) : BndV (m + l.length) (applyV v l).1 := by
  unfold applyV
  split
  · exact .v0
  split
  · exact h.all l ho
  · exact .v0
theorem BndV.applied {m : Nat} {v x : V} {l : List Opn} {e : Int} (h : BndV m v) (ho : ∀ o ∈ l, BndV m o.val) (ha : applyV v l = (x, e)) (hm : m + l.length ≤ 1000000) : SmallV x := by
  have := h.apply ho
  rw [ha] at this
  exact this.small hm
theorem law_bnd {v : V} (h : fewV 7 v = true) (hw : WfV v) : BndV 8 (lawR v) := few_bnd 7 _ (lawR_few 7 v h hw).2.1
end Go.AV.Patch
