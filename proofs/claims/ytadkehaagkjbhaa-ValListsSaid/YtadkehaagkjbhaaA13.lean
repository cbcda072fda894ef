/-
  The AV logic, part 13: a strings.Builder of one's own.
-/
import Derived.Test.YtadkehaagkjbhaaA12
namespace Go.AV
open Go.RowKit

/-- What a call has made for itself is forgotten; it returns several values. -/
theorem ACalls.tidyT {P : Program} {f : FuncId} {args : List AV} {H : HS} {xs : List DV} (h : ACalls P f args H fun av H' => av = .tup (xs.map .d) ∧ Ext H H') : ACalls P f args H (Ret (.tup (xs.map .d)) H) :=
  ACalls.tidy (R := fun av => av = .tup (xs.map .d)) (h.mono fun v H' ⟨h1, h2⟩ => ⟨by rw [h1]; exact .tup _ fun i hi => by simp only [List.getElem_map]; exact .d _, h2, h1⟩)
def dataV : AV → AV
  | .arr id _ _ => .ptr id 0
  | _ => .d (.v (.pointer none))
def frzV (H : HS) : AV → HS
  | .arr id _ _ => H.frz id
  | _ => H
/-- What a builder's buffer holds. -/
inductive BV (H : HS) (e : TypeId) : AV → List UInt8 → Prop
  | nil : BV H e nilS []
  | arr (id cap : Nat) (cs : List AV) (l : List UInt8) (hb : H.blks[id]? = some ⟨e, cs, false⟩) (hc : cs.length = cap) (hl : cs.take l.length = l.map fun c => .d (BY c)) (h0 : l ≠ []) (hn : l.length ≤ cap) : BV H e (.arr id l.length cap) l
theorem BV.kept {H H' : HS} {e : TypeId} {v : AV} {l : List UInt8} (h : BV H e v l) (hk : ∀ id n cap, v = .arr id n cap → H'.blks[id]? = H.blks[id]?) : BV H' e v l := by
  cases h with
  | nil => exact .nil
  | arr id cap cs l hb hc hl h0 hn => exact .arr id cap cs l (by rw [hk _ _ _ rfl]; exact hb) hc hl h0 hn
theorem BV.arrs {H : HS} {e : TypeId} {v : AV} {l : List UInt8} (h : BV H e v l) : Arr H e 1 v l.length (l.map fun c => .d (BY c)) := by
  cases h with
  | nil => exact .nil
  | arr id cap cs l hb hc hl h0 hn => exact .arr id _ cap cs _ hb (by rw [hc, Nat.mul_one]) hn (by rw [Nat.mul_one]; exact hl)
theorem Arr.bv {H : HS} {e : TypeId} {v : AV} {n : Nat} {us : List AV} {l : List UInt8} (h : Arr H e 1 v n us) (hn : n = l.length) (hu : us = l.map fun c => .d (BY c)) (h0 : l ≠ []) : BV H e v l := by
  cases h with
  | nil => exact absurd (List.length_eq_zero_iff.1 hn.symm) h0
  | arr id _ cap cs _ hb hc hn' hu' =>
    subst hn
    exact .arr id cap cs l hb (by rw [hc, Nat.mul_one]) (by rw [Nat.mul_one] at hu'; rw [hu', hu]) h0 hn'
structure Bld (Hs : HS) (eB eU : TypeId) (H : HS) (l : List UInt8) : Prop where
  ext : Ext Hs H
  it : ∃ p v, H.blks[Hs.nb]? = some ⟨eB, [p, v], false⟩ ∧ BV H eU v l ∧ (p = .d (.v (.pointer none)) ∨ p = .ptr Hs.nb 0) ∧ ∀ id n cap, v = .arr id n cap → Hs.nb < id
theorem Bld.new (Hs : HS) (eB eU : TypeId) : Bld Hs eB eU (Hs.push eB [.d (.v (.pointer none)), nilS]) [] :=
  ⟨(Ext.refl Hs).push _ _, _, _, by simp [HS.push, HS.nb], .nil, .inl rfl, fun _ _ _ h => by cases h⟩
theorem Ext.of {Hs H H' : HS} (h : Ext Hs H) (ht : H'.toks = H.toks) (hb : ∀ j, j < Hs.nb → H'.blks[j]? = H.blks[j]?) : Ext Hs H' := by
  obtain ⟨l, hl⟩ := h.blks
  obtain ⟨m, hm⟩ := h.toks
  refine ⟨⟨H'.blks.drop Hs.nb, ?_⟩, ⟨m, by rw [ht, hm]⟩⟩
  have : H'.blks.take Hs.nb = Hs.blks := by
    apply List.ext_getElem?
    intro j
    rw [List.getElem?_take]
    by_cases hj : j < Hs.nb
    · rw [if_pos hj, hb j hj, hl, List.getElem?_append_left hj]
    · rw [if_neg hj, List.getElem?_eq_none (by simpa [HS.nb] using hj)]
  conv => lhs; rw [← List.take_append_drop Hs.nb H'.blks, this]
theorem put_blks_ne {H : HS} {id off j : Nat} {vs : List AV} (h : j ≠ id) : (H.put id off vs).blks[j]? = H.blks[j]? := by
  have hne : ¬ id = j := fun e => h e.symm
  cases hq : H.blks[j]? <;> simp [HS.put, hne, hq]
theorem put_blks_at {H : HS} {id off : Nat} {vs : List AV} {b : HB} (h : H.blks[id]? = some b) : (H.put id off vs).blks[id]? = some { b with cs := putL b.cs off vs } := by simp [HS.put, h]
theorem put_nb {H : HS} {id off : Nat} {vs : List AV} : (H.put id off vs).nb = H.nb := by simp [HS.put, HS.nb]
theorem put_self {H : HS} {id : Nat} {e : TypeId} {p v : AV} {f : Bool} (h : H.blks[id]? = some ⟨e, [p, v], f⟩) : H.put id 0 [p] = H := by
  have : (H.put id 0 [p]).blks = H.blks := by
    apply List.ext_getElem?
    intro j
    by_cases hj : j = id
    · subst hj
      rw [put_blks_at h, h]
      rfl
    · exact put_blks_ne hj
  cases H
  simp only [HS.put] at this ⊢
  rw [this]
/-- A byte more. -/
theorem Bld.step {Hs H H2 : HS} {eB eU : TypeId} {p v v' : AV} {l : List UInt8} {c : UInt8} (hx : Ext Hs H) (hb : H.blks[Hs.nb]? = some ⟨eB, [p, v], false⟩) (hlt : ∀ id n cap, v = .arr id n cap → Hs.nb < id)
    (hK : Kept (H.put Hs.nb 0 [.ptr Hs.nb 0]) H2 v) (hA : Arr H2 eU 1 v' (l.length + 1) (l.map (fun c => AV.d (BY c)) ++ [.d (BY c)])) (hv : ∃ id m cap, v' = .arr id m cap ∧ Hs.nb < id) :
    Bld Hs eB eU (H2.put Hs.nb 1 [v']) (l ++ [c]) := by
  have hnb : Hs.nb < H.nb := (List.getElem?_eq_some_iff.1 hb).1
  have h1 : H2.blks[Hs.nb]? = some ⟨eB, [.ptr Hs.nb 0, v], false⟩ := by
    rw [hK.blks Hs.nb (by rw [put_nb]; exact hnb) (fun n cap e => by have := hlt _ _ _ e; omega), put_blks_at hb]
    rfl
  refine ⟨hx.of ?_ fun j hj => ?_, .ptr Hs.nb 0, v', ?_, ?_, .inr rfl, ?_⟩
  · show H2.toks = H.toks
    rw [hK.toks]
    rfl
  · rw [put_blks_ne (by omega), hK.blks j (by rw [put_nb]; omega) (fun n cap e => by have := hlt _ _ _ e; omega), put_blks_ne (by omega)]
  · rw [put_blks_at h1]
    rfl
  · have h2 := hA.bv (l := l ++ [c]) (by simp) (by simp) (by simp)
    obtain ⟨id', m, cap', e, h3⟩ := hv
    subst e
    generalize l ++ [c] = l2 at h2
    cases h2 with
    | arr id cap cs l' hb' hc hl h0 hn => exact .arr _ cap' cs _ (by rw [put_blks_ne (by omega)]; exact hb') hc hl h0 hn
  · obtain ⟨id', m, cap', e, h3⟩ := hv
    intro id n cap e'
    rw [e] at e'
    cases e'
    exact h3
theorem frzV_ext {Hs H : HS} {v : AV} (hx : Ext Hs H) (hlt : ∀ id n cap, v = .arr id n cap → Hs.nb < id) : Ext Hs (frzV H v) := by
  cases v with
  | arr id n cap =>
    have := hlt _ _ _ rfl
    refine hx.of rfl fun j hj => ?_
    have hne : ¬ id = j := by omega
    cases hq : H.blks[j]? <;> simp [frzV, HS.frz, hne, hq]
  | _ => exact hx
section
variable {P : Program} {E : Operand → AV} {H H0 : HS} {R : AV → HS → Prop} {dst : Option Tmp} {ty : TypeId} {pos : String} {after : Array Edge} {gd : Option (Nat × Bool)}
theorem op_sliceData_bv {x : Operand} {ts : Array TypeId} {e : TypeId} {v : AV} {l : List UInt8} (hx : E x = v) (hv : BV H0 e v l) : OpR P ⟨dst, .call ⟨.builtin .unsafeSliceData, #[x], ts⟩, ty, pos, after, gd⟩ E H (Ret (dataV v) H) := by
  cases hv with
  | nil => exact op_sliceData_nil hx
  | arr id cap cs l hb hc hl h0 hn => exact op_sliceData_arr hx (by have := List.length_pos_iff.2 h0; omega)
theorem op_len_bv {x : Operand} {t e' e : TypeId} {v : AV} {l : List UInt8} (ht : P.underlying t = some (.slice e')) (hx : E x = v) (hv : BV H0 e v l) : OpR P ⟨dst, .call ⟨.builtin .len, #[x], #[t]⟩, ty, pos, after, gd⟩ E H (Ret (.d (I l.length)) H) := by
  cases hv with
  | nil => exact op_lenL (sz := 1) (xs := []) ht (by rw [hx]; exact .nil _)
  | arr id cap cs l hb hc hl h0 hn => exact op_lenArr ht hx
theorem op_unsafeString_bv {x y : Operand} {pt it e : TypeId} {v : AV} {l : List UInt8} (hp : P.underlying pt = some (.pointer e)) (hc : P.cellsOf e = 1) (hx : E x = dataV v) (hy : E y = .d (I l.length)) (hv : BV H e v l) (h63 : l.length ≤ 9223372036854775807) :
    OpR P ⟨dst, .call ⟨.builtin .unsafeString, #[x, y], #[pt, it]⟩, ty, pos, after, gd⟩ E H (Ret (.d (S l)) (frzV H v)) := by
  cases hv with
  | nil => exact op_unsafeString0 hx hy
  | arr id cap cs l hb hc' hl h0 hn => exact op_unsafeString hp hc hx hy hb h0 h63 hl
end
end Go.AV
