/-
  The AV logic, part 13: a strings.Builder of one's own.
-/
import Derived.Test.YtjamnhofbkgblaaA12
namespace Go.AV
open Go.RowKit

/-- What a call has made for itself is forgotten; it returns several values. -/
theorem ACalls.tidyT {P : Program} {f : FuncId} {args : List AV} {H : HS} {xs : List DV} (h : ACalls P f args H fun av H' => av = .tup (xs.map .d) ∧ Ext H H') : ACalls P f args H (Ret (.tup (xs.map .d)) H) :=
  ACalls.tidy (R := fun av => av = .tup (xs.map .d)) (h.mono fun v H' ⟨h1, h2⟩ => ⟨by rw [h1]; exact .tup _ fun i hi => by simp only [List.getElem_map]; exact .d _, h2, h1⟩)
def dataV : AV → AV
  | .arr id _ _ => .ptr id 0
  | _ => .d (.v (.pointer none))
def frzV (H : HS) : AV → HS
  | .arr id _ _ => H.frz id
  | _ => H
/-- What a builder's buffer holds. -/
inductive BV (H : HS) (e : TypeId) : AV → List UInt8 → Prop
  | nil : BV H e nilS []
  | arr (id cap : Nat) (cs : List AV) (l : List UInt8) (hb : H.blks[id]? = some ⟨e, cs, false⟩) (hc : cs.length = cap) (hl : cs.take l.length = l.map fun c => .d (BY c)) (h0 : l ≠ []) (hn : l.length ≤ cap) : BV H e (.arr id l.length cap) l
theorem BV.kept {H H' : HS} {e : TypeId} {v : AV} {l : List UInt8} (h : BV H e v l) (hk : ∀ id n cap, v = .arr id n cap → H'.blks[id]? = H.blks[id]?) : BV H' e v l := by
  cases h with
  | nil => exact .nil
  | arr id cap cs l hb hc hl h0 hn => exact .arr id cap cs l (by rw [hk _ _ _ rfl]; exact hb) hc hl h0 hn
theorem BV.arrs {H : HS} {e : TypeId} {v : AV} {l : List UInt8} (h : BV H e v l) : Arr H e 1 v l.length (l.map fun c => .d (BY c)) := by
  cases h with
  | nil => exact .nil
  | arr id cap cs l hb hc hl h0 hn => exact .arr id _ cap cs _ hb (by rw [hc, Nat.mul_one]) hn (by rw [Nat.mul_one]; exact hl)
theorem Arr.bv {H : HS} {e : TypeId} {v : AV} {n : Nat} {us : List AV} {l : List UInt8} (h : Arr H e 1 v n us) (hn : n = l.length) (hu : us = l.map fun c => .d (BY c)) (h0 : l ≠ []) : BV H e v l := by
  cases h with
  | nil => exact absurd (List.length_eq_zero_iff.1 hn.symm) h0
  | arr id _ cap cs _ hb hc hn' hu' =>
    subst hn
    exact .arr id cap cs l hb (by rw [hc, Nat.mul_one]) (by rw [Nat.mul_one] at hu'; rw [hu', hu]) h0 hn'
structure Bld (Hs : HS) (eB eU : TypeId) (H : HS) (l : List UInt8) : Prop where
  ext : Ext Hs H
  it : ∃ p v, H.blks[Hs.nb]? = some ⟨eB, [p, v], false⟩ ∧ BV H eU v l ∧ (p = .d (.v (.pointer none)) ∨ p = .ptr Hs.nb 0) ∧ ∀ id n cap, v = .arr id n cap → Hs.nb < id
theorem Bld.new (Hs : HS) (eB eU : TypeId) : Bld Hs eB eU (Hs.push eB [.d (.v (.pointer none)), nilS]) [] :=
  ⟨(Ext.refl Hs).push _ _, _, _, by simp [HS.push, HS.nb], .nil, .inl rfl, fun _ _ _ h => by cases h⟩
theorem Ext.of {Hs H H' : HS} (h : Ext Hs H) (ht : H'.toks = H.toks) (hb : ∀ j, j < Hs.nb → H'.blks[j]? = H.blks[j]?) : Ext Hs H' := by
  obtain ⟨l, hl⟩ := h.blks
  obtain ⟨m, hm⟩ := h.toks
  refine ⟨⟨H'.blks.drop Hs.nb, ?_⟩, ⟨m, by rw [ht, hm]⟩⟩
  have : H'.blks.take Hs.nb = Hs.blks := by
    apply List.ext_getElem?
    intro j
    rw [List.getElem?_take]
    by_cases hj : j < Hs.nb
    · rw [if_pos hj, hb j hj, hl, List.getElem?_append_left hj]
    · rw [if_neg hj, List.getElem?_eq_none (by simpa [HS.nb] using hj)]
  conv => lhs; rw [← List.take_append_drop Hs.nb H'.blks, this]
theorem put_blks_ne {H : HS} {id off j : Nat} {vs : List AV} (h : j ≠ id) : (H.put id off vs).blks[j]? = H.blks[j]? := by
  have hne : ¬ id = j := fun e => h e.symm
  cases hq : H.blks[j]? <;> simp [HS.put, hne, hq]
theorem put_blks_at {H : HS} {id off : Nat} {vs : List AV} {b : HB} (h : H.blks[id]? = some b) : (H.put id off vs).blks[id]? = some { b with cs := putL b.cs off vs } := by simp [HS.put, h]
theorem put_nb {H : HS} {id off : Nat} {vs : List AV} : (H.put id off vs).nb = H.nb := by simp [HS.put, HS.nb]
theorem put_self {H : HS} {id : Nat} {e : TypeId} {p v : AV} {f : Bool} (h : H.blks[id]? = some ⟨e, [p, v], f⟩) : H.put id 0 [p] = H := by
  have : (H.put id 0 [p]).blks = H.blks := by
    apply List.ext_getElem?
    intro j
    by_cases hj : j = id
    · subst hj
      rw [put_blks_at h, h]
      rfl
    · exact put_blks_ne hj
  cases H
  simp only [HS.put] at this ⊢
  rw [this]
/-- A byte more. -/
theorem Bld.step {Hs H H2 : HS} {eB eU : TypeId} {p v v' : AV} {l : List UInt8} {c : UInt8} (hx : Ext Hs H) (hb : H.blks[Hs.nb]? = some ⟨eB, [p, v], false⟩) (hlt : ∀ id n cap, v = .arr id n cap → Hs.nb < id)
    (hK : Kept (H.put Hs.nb 0 [.ptr Hs.nb 0]) H2 v) (hA : Arr H2 eU 1 v' (l.length + 1) (l.map (fun c => AV.d (BY c)) ++ [.d (BY c)])) (hv : ∃ id m cap, v' = .arr id m cap ∧ Hs.nb < id) :
    Bld Hs eB eU (H2.put Hs.nb 1 [v']) (l ++ [c]) := by
  have hnb : Hs.nb < H.nb := (List.getElem?_eq_some_iff.1 hb).1
  have h1 : H2.blks[Hs.nb]? = some ⟨eB, [.ptr Hs.nb 0, v], false⟩ := by
    rw [hK.blks Hs.nb (by rw [put_nb]; exact hnb) (fun n cap e => by have := hlt _ _ _ e; omega), put_blks_at hb]
    rfl
  refine ⟨hx.of ?_ fun j hj => ?_, .ptr Hs.nb 0, v', ?_, ?_, .inr rfl, ?_⟩
  · show H2.toks = H.toks
    rw [hK.toks]
    rfl
  · rw [put_blks_ne (by omega), hK.blks j (by rw [put_nb]; omega) (fun n cap e => by have := hlt _ _ _ e; omega), put_blks_ne (by omega)]
  · rw [put_blks_at h1]
    rfl
  · have h2 := hA.bv (l := l ++ [c]) (by simp) (by simp) (by simp)
    obtain ⟨id', m, cap', e, h3⟩ := hv
    subst e
    generalize l ++ [c] = l2 at h2
    cases h2 with
    | arr id cap cs l' hb' hc hl h0 hn => exact .arr _ cap' cs _ (by rw [put_blks_ne (by omega)]; exact hb') hc hl h0 hn
  · obtain ⟨id', m, cap', e, h3⟩ := hv
    intro id n cap e'
    rw [e] at e'
    cases e'
    exact h3
theorem frzV_ext {Hs H : HS} {v : AV} (hx : Ext Hs H) (hlt : ∀ id n cap, v = .arr id n cap → Hs.nb < id) : Ext Hs (frzV H v) := by
  cases v with
  | arr id n cap =>
    have := hlt _ _ _ rfl
    refine hx.of rfl fun j hj => ?_
    have hne : ¬ id = j := by omega
    cases hq : H.blks[j]? <;> simp [frzV, HS.frz, hne, hq]
  | _ => exact hx
section
variable {P : Program} {E : Operand → AV} {H H0 : HS} {R : AV → HS → Prop} {dst : Option Tmp} {ty : TypeId} {pos : String} {after : Array Edge} {gd : Option (Nat × Bool)}
theorem op_sliceData_bv {x : Operand} {ts : Array TypeId} {e : TypeId} {v : AV} {l : List UInt8} (hx : E x = v) (hv : BV H0 e v l) : OpR P ⟨dst, .call ⟨.builtin .unsafeSliceData, #[x], ts⟩, ty, pos, after, gd⟩ E H (Ret (dataV v) H) := by
  cases hv with
  | nil => exact op_sliceData_nil hx
  | arr id cap cs l hb hc hl h0 hn => exact op_sliceData_arr hx (by have := List.length_pos_iff.2 h0; omega)
theorem op_len_bv {x : Operand} {t e' e : TypeId} {v : AV} {l : List UInt8} (ht : P.underlying t = some (.slice e')) (hx : E x = v) (hv : BV H0 e v l) : OpR P ⟨dst, .call ⟨.builtin .len, #[x], #[t]⟩, ty, pos, after, gd⟩ E H (Ret (.d (I l.length)) H) := by
  cases hv with
  | nil => exact op_lenL (sz := 1) (xs := []) ht (by rw [hx]; exact .nil _)
  | arr id cap cs l hb hc hl h0 hn => exact op_lenArr ht hx
theorem op_unsafeString_bv {x y : Operand} {pt it e : TypeId} {v : AV} {l : List UInt8} (hp : P.underlying pt = some (.pointer e)) (hc : P.cellsOf e = 1) (hx : E x = dataV v) (hy : E y = .d (I l.length)) (hv : BV H e v l) (h63 : l.length ≤ 9223372036854775807) :
    OpR P ⟨dst, .call ⟨.builtin .unsafeString, #[x, y], #[pt, it]⟩, ty, pos, after, gd⟩ E H (Ret (.d (S l)) (frzV H v)) := by
  cases hv with
  | nil => exact op_unsafeString0 hx hy
  | arr id cap cs l hb hc' hl h0 hn => exact op_unsafeString hp hc hx hy hb h0 h63 hl
end
end Go.AV
/-
  The AV logic, part 14: lists of whatever elements that grow; what is returned is known less of.
-/
namespace Go.AV
open Go.RowKit

/-- v, held at some place of H', is the heir of t in H, and has the elements xs. -/
structure Grows (H : HS) (t : Option Nat) (v : AV) (H' : HS) (sz : Nat) (xs : List DV) : Prop where
  ex : ∃ t', App v t' sz xs ∧ Heir H t H' t' ∧ H'.ok t' xs.length
theorem Grows.own {H : HS} {t : Option Nat} {v : AV} {sz : Nat} {xs : List DV} (h : App v t sz xs) (hok : H.ok t xs.length) : Grows H t v H sz xs := ⟨⟨t, h, Heir.refl _ _, hok⟩⟩
theorem Grows.grown {H H' : HS} {t t' : Option Nat} {sz m n : Nat} {xs ys : List DV} (hh : Heir H t H' t') (hok : H'.ok t' m) (hx : xs = ys) (hn : n = ys.length) : Grows H t (.own (some (H'.tk t')) sz xs) (H'.up t' n) sz ys := by
  subst hx
  exact ⟨⟨_, .own _ _ _, hh.step n, by rw [hn]; exact HS.ok_up H' t' _ hok⟩⟩
/-- A value of which less is known. -/
def Weak (v v' : AV) : Prop := ∀ (c : Ctx) (x : Value), Rep c x v → Rep c x v'
theorem Weak.refl (v : AV) : Weak v v := fun _ _ h => h
theorem Weak.lst {v : AV} {t : Option Nat} {sz : Nat} {xs : List DV} (h : App v t sz xs) : Weak v (.d (.lst sz xs)) := by
  intro c x hx
  obtain ⟨a, n, cap, rfl, hd⟩ := h.ll.rep hx
  exact .d hd
theorem Weak.nil (sz : Nat) : Weak nilS (.d (.lst sz [])) := Weak.lst (.nil sz)
inductive Weaks : List AV → List AV → Prop
  | nil : Weaks [] []
  | cons {x y : AV} {l m : List AV} (h : Weak x y) (r : Weaks l m) : Weaks (x :: l) (y :: m)
theorem Weaks.len {l m : List AV} (h : Weaks l m) : l.length = m.length := by
  induction h with
  | nil => rfl
  | cons _ _ ih => simp [ih]
theorem Weaks.get {l m : List AV} (h : Weaks l m) : ∀ (c : Ctx) (vs : Nat → Value), (∀ i (hi : i < l.length), Rep c (vs i) l[i]) → ∀ i (hi : i < m.length), Rep c (vs i) m[i] := by
  induction h with
  | nil => intro c vs _ i hi; simp at hi
  | cons hx _ ih =>
    intro c vs hv i hi
    cases i with
    | zero => exact hx c _ (hv 0 (by simp))
    | succ i => exact ih c (fun j => vs (j + 1)) (fun j hj => by have := hv (j + 1) (by simpa using hj); simpa using this) i (by simpa using hi)
theorem Weak.tup {l m : List AV} (h : Weaks l m) : Weak (.tup l) (.tup m) := by
  intro c x hx
  cases hx with
  | tup vs _ hl hr => exact .tup vs _ (by rw [hl, h.len]) (h.get c (fun i => vs.getD i undef) hr)
theorem Weak.agg {l m : List AV} (h : Weaks l m) : Weak (.agg l) (.agg m) := by
  intro c x hx
  cases hx with
  | agg vs _ hl hr => exact .agg vs _ (by rw [hl, h.len]) (h.get c (fun i => vs.getD i undef) hr)
theorem Weak.aggD {l : List AV} {ds : List DV} (h : Weaks l (ds.map .d)) (h1 : ∀ d ∈ ds, d.one = true) : Weak (.agg l) (.d (.agg ds)) := fun c x hx => rep_agg_d h1 (Weak.agg h c x hx)
theorem ACalls.weak {P : Program} {f : FuncId} {args : List AV} {H : HS} {R R' : AV → HS → Prop} (h : ACalls P f args H R) (hr : ∀ v H', R v H' → ∃ v', Weak v v' ∧ R' v' H') : ACalls P f args H R' :=
  fun B w0 c w vs hI hs ha => (h B w0 c w vs hI hs ha).mono fun _ _ ⟨v, av, H', c', h1, h2, h3, h4, h5⟩ => by
    obtain ⟨v', h6, h7⟩ := hr _ _ h5
    exact ⟨v, v', H', c', h1, h2, h6 _ _ h3, h4, h7⟩
/-- Two parts, and what holds between them. -/
def CutP (R : List AV → HS → Prop) (Q : Post) : Post := fun e T H => match e with
  | .normal => ∃ T', TLe T T' ∧ R T' H
  | e => Q e T H
section
variable {P : Program} {Q : Post} {T T' : List AV} {H : HS} {R : List AV → HS → Prop}
theorem cut_to (m : List Bool) (hm : maskT m T = T') (hl : m.length = T.length) (h : R T' H) : CutP R Q .normal T H := ⟨T', hm ▸ maskT_le m T hl, h⟩
theorem cut_ret (h : Q .ret T H) : CutP R Q .ret T H := h
theorem cut_exit {i : Nat} (h : Q (.exit i) T H) : CutP R Q (.exit i) T H := h
theorem aw_cutF {x y : Code} (R : List AV → HS → Prop) (h1 : AW P x (CutP R Q) T H) (h2 : ∀ T H, R T H → AW P y Q T H) : AW P (.seq x y) Q T H :=
  aw_cut R h1 h2
end
end Go.AV
/-
  The AV logic, part 15: exact blocks by name; results that stand in cells.
-/
namespace Go.AV
open Go.RowKit

/-! ### Exact blocks by name -/
def HS.setB (H : HS) (id : Nat) (b : HB) : HS := { H with blks := H.blks.set id b }
theorem put_setB {H : HS} {id off : Nat} {vs : List AV} {b : HB} (h : H.blks[id]? = some b) : H.put id off vs = H.setB id { b with cs := putL b.cs off vs } := by
  have : (H.put id off vs).blks = (H.setB id { b with cs := putL b.cs off vs }).blks := by
    apply List.ext_getElem?
    intro j
    have hlt := (List.getElem?_eq_some_iff.1 h).1
    by_cases hj : j = id
    · subst hj
      rw [put_blks_at h]
      simp [HS.setB, hlt]
    · rw [put_blks_ne hj]
      have hne : ¬ id = j := fun e => hj e.symm
      simp [HS.setB, hne]
  cases H
  simp only [HS.put, HS.setB] at this ⊢
  rw [this]
theorem setB_self {H : HS} {id : Nat} {b : HB} (h : H.blks[id]? = some b) : H.setB id b = H := by
  obtain ⟨hlt, rfl⟩ := List.getElem?_eq_some_iff.1 h
  cases H
  simp [HS.setB]
theorem setB_at {H : HS} {id : Nat} {b b' : HB} (h : H.blks[id]? = some b) : (H.setB id b').blks[id]? = some b' := by
  have hlt := (List.getElem?_eq_some_iff.1 h).1
  simp [HS.setB, hlt]
theorem setB_ne {H : HS} {id j : Nat} {b : HB} (h : j ≠ id) : (H.setB id b).blks[j]? = H.blks[j]? := by
  have hne : ¬ id = j := fun e => h e.symm
  simp [HS.setB, hne]
theorem setB_setB {H : HS} {id : Nat} {b b' : HB} : (H.setB id b).setB id b' = H.setB id b' := by simp [HS.setB]
theorem setB_toks {H : HS} {id : Nat} {b : HB} : (H.setB id b).toks = H.toks := rfl
theorem setB_nb {H : HS} {id : Nat} {b : HB} : (H.setB id b).nb = H.nb := by simp [HS.setB, HS.nb]
theorem push_nb {H : HS} {e : TypeId} {cs : List AV} : (H.push e cs).nb = H.nb + 1 := by simp [HS.push, HS.nb]
theorem push_at {H : HS} {e : TypeId} {cs : List AV} : (H.push e cs).blks[H.nb]? = some ⟨e, cs, false⟩ := by simp [HS.push, HS.nb]
theorem push_ne {H : HS} {e : TypeId} {cs : List AV} {j : Nat} {b : HB} (h : H.blks[j]? = some b) : (H.push e cs).blks[j]? = some b := by
  have hlt := (List.getElem?_eq_some_iff.1 h).1
  simp only [HS.push]
  rw [List.getElem?_append_left hlt]
  exact h
theorem up_blks' {H : HS} {t : Option Nat} {n j : Nat} : (H.up t n).blks[j]? = H.blks[j]? := by rw [HS.up_blks]
theorem Ext.setB {Hs H : HS} {id : Nat} {b : HB} (h : Ext Hs H) (hlt : Hs.nb ≤ id) : Ext Hs (H.setB id b) := h.of rfl fun j hj => setB_ne (by omega)
/-- A place for what a call has made. -/
def NewTok (Hs : HS) (t : Option Nat) : Prop := ∀ i, t = some i → Hs.toks.length ≤ i
theorem Ext.upN {Hs H : HS} {t : Option Nat} {n m : Nat} (h : Ext Hs H) (hn : NewTok Hs t) (hok : H.ok t m) : Ext Hs (H.up t n) ∧ NewTok Hs (some (H.tk t)) := by
  obtain ⟨l, hl⟩ := h.toks
  cases t with
  | none => 
    refine ⟨⟨by rw [HS.up_blks]; exact h.blks, ⟨l ++ [n], by simp [HS.up, hl]⟩⟩, fun i hi => ?_⟩
    cases hi
    simp [HS.tk, hl]
  | some k =>
    have hk := hn k rfl
    refine ⟨⟨by rw [HS.up_blks]; exact h.blks, ?_⟩, fun i hi => ?_⟩
    · refine ⟨l.set (k - Hs.toks.length) n, ?_⟩
      simp only [HS.up, hl]
      rw [List.set_append_right _ _ hk]
    · cases hi
      exact hk
theorem NewTok.none (Hs : HS) : NewTok Hs none := fun _ h => by cases h

section
variable {P : Program} {E : Operand → AV} {H : HS} {R : AV → HS → Prop} {dst : Option Tmp} {ty : TypeId} {pos : String} {after : Array Edge} {gd : Option (Nat × Bool)}
theorem op_storeB {x y : Operand} {t : TypeId} {id off n : Nat} {b b' : HB} {H' : HS} {vs : List AV} (hn : (P.info? t).map (·.size) = some n) (hx : E x = .ptr id off) (hb : H.blks[id]? = some b) (hu : E y ≠ .un) (hvs : (E y).cells = vs) (hl : vs.length = n) (hfit : off + n ≤ b.cs.length)
    (hone : ∀ v ∈ vs, v.one = true) (hfz : b.frz = false) (hb' : (⟨b.elem, putL b.cs off vs, b.frz⟩ : HB) = b') (hH : H.setB id b' = H') : OpR P ⟨dst, .store t x y, ty, pos, after, gd⟩ E H (Ret .un H') := by
  have h := op_store (dst := dst) (ty := ty) (pos := pos) (after := after) (gd := gd) hn hx hb hu hvs hl hfit hone hfz
  rw [put_setB hb] at h
  have e : ({ b with cs := putL b.cs off vs } : HB) = b' := hb'
  rwa [e, hH] at h
end

/-! ### Results that stand in cells -/
inductive Res1 (P : Program) (T : List AV) (H : HS) : ResultVar → AV → Prop
  | tmp {t : Tmp} {av : AV} (h : T[t]? = some av) : Res1 P T H (.tmp t) av
  | cell {a : Tmp} {ty : TypeId} {d : TypeDesc} {id off : Nat} {b : HB} {v : AV} (ht : P.underlying ty = some d) (hd : notAgg d = true) (hx : T[a]? = some (.ptr id off)) (hb : H.blks[id]? = some b) (hv : b.cs[off]? = some v) : Res1 P T H (.cell a ty) v
  | cells {a : Tmp} {ty : TypeId} {d : TypeDesc} {id off n : Nat} {b : HB} {vs : List AV} (ht : P.underlying ty = some d) (hd : notAgg d = false) (hn : (P.info? ty).map (·.size) = some n) (hx : T[a]? = some (.ptr id off)) (hb : H.blks[id]? = some b)
      (hl : off + n ≤ b.cs.length) (hvs : (b.cs.drop off).take n = vs) : Res1 P T H (.cell a ty) (.agg vs)
def resRun (tmps : Array Value) : ResultVar → Sem Value
  | .tmp t => pure (tmps.getD t undef)
  | .cell a t => do loadVar t (← asAddr (tmps.getD a undef))
theorem Res1.run {P : Program} {T : List AV} {H : HS} {B : Nat} {w0 w : World} {c : Ctx} {tmps : Array Value} (hI : Inv B w0 c H w) (hT : RepT c tmps T) {r : ResultVar} {av : AV} (h : Res1 P T H r av) : ∃ v, (resRun tmps r).run P w = .ok v w ∧ Rep c v av := by
  cases h with
  | tmp h => exact ⟨_, rfl, getD_of hT h⟩
  | @cell a ty d id off b _ ht hd hx hb hv =>
    obtain ⟨g, e, hg⟩ := (getD_of hT hx).ptr_inv
    obtain ⟨u, hc, hr⟩ := hI.cell hg hb hv
    exact ⟨u, by simp [resRun, e, asAddr, run_load_one ht hd w hc], hr⟩
  | @cells a ty d id off n b vs ht hd hn hx hb hl hvs =>
    obtain ⟨g, e, hg⟩ := (getD_of hT hx).ptr_inv
    subst hvs
    have hall : ∀ j, j < n → ∃ u, w.cell? ⟨g, off + j, none⟩ = some u ∧ ∃ v, b.cs[off + j]? = some v ∧ Rep c u v := fun j hj => by
      have hlt : off + j < b.cs.length := by omega
      obtain ⟨u, h2, h3⟩ := hI.cell hg hb (List.getElem?_eq_getElem hlt)
      exact ⟨u, h2, _, List.getElem?_eq_getElem hlt, h3⟩
    let f : Nat → Value := fun j => (w.cell? ⟨g, off + j, none⟩).getD undef
    refine ⟨.agg ((List.range n).map f).toArray, ?_, .agg _ _ (by simp; omega) (fun i hi => ?_)⟩
    · have := run_load_agg (P := P) ht hd hn (g := g) (o := off) ((List.range n).map f) (by simp) w (fun j u hu => by
        have hj : j < n := by have := (List.getElem?_eq_some_iff.1 hu).1; simpa using this
        have : u = f j := by simp [hj] at hu; exact hu.symm
        subst this
        obtain ⟨u, h2, _⟩ := hall j hj
        simp [f, h2])
      simp [resRun, e, asAddr, this]
    · have hi' : i < n := by simp at hi; omega
      obtain ⟨u, h2, v, h3, h4⟩ := hall i hi'
      have e1 : (((List.range n).map f).toArray).getD i undef = u := by simp [hi', f, h2]
      rw [e1]
      have e2 : ((b.cs.drop off).take n)[i] = v := by
        rw [List.getElem_take, List.getElem_drop]
        have := (List.getElem?_eq_some_iff.1 h3).2
        exact this
      rw [e2]
      exact h4
def RetPostC (P : Program) (rs : Array ResultVar) (R : AV → HS → Prop) : Post := fun e T H => (e = .ret ∨ e = .normal) ∧
  ∃ av, R av H ∧ ((∃ r, rs = #[r] ∧ Res1 P T H r av) ∨ (∃ r s x y, rs = #[r, s] ∧ Res1 P T H r x ∧ Res1 P T H s y ∧ av = .tup [x, y]) ∨ (∃ r s q x y z, rs = #[r, s, q] ∧ Res1 P T H r x ∧ Res1 P T H s y ∧ Res1 P T H q z ∧ av = .tup [x, y, z]))
section
variable {P : Program} {T : List AV} {H : HS} {rs : Array ResultVar} {R : AV → HS → Prop}
theorem retC1 {r : ResultVar} {x : AV} (hr : rs = #[r]) (h1 : Res1 P T H r x) (h : R x H) : RetPostC P rs R .ret T H := ⟨.inl rfl, _, h, .inl ⟨r, hr, h1⟩⟩
theorem retC2 {r s : ResultVar} {x y : AV} (hr : rs = #[r, s]) (h1 : Res1 P T H r x) (h2 : Res1 P T H s y) (h : R (.tup [x, y]) H) : RetPostC P rs R .ret T H := ⟨.inl rfl, _, h, .inr (.inl ⟨r, s, x, y, hr, h1, h2, rfl⟩)⟩
theorem retC3 {r s q : ResultVar} {x y z : AV} (hr : rs = #[r, s, q]) (h1 : Res1 P T H r x) (h2 : Res1 P T H s y) (h3 : Res1 P T H q z) (h : R (.tup [x, y, z]) H) : RetPostC P rs R .ret T H :=
  ⟨.inl rfl, _, h, .inr (.inr ⟨r, s, q, x, y, z, hr, h1, h2, h3, rfl⟩)⟩
theorem results_eq {fn : Func} {tmps : Array Value} : results fn tmps = (do let vs ← fn.results.mapM (resRun tmps); pure (if h : vs.size = 1 then vs[0] else .tuple vs)) := by
  unfold results
  congr 1
theorem acalls_of_awC {f : FuncId} {fn : Func} {k : Code} {args : List AV} (hf : P.funcs[f]? = some fn) (hb : fn.body = some k)
    (h : AW P k (RetPostC P fn.results R) (args ++ List.replicate (fn.ntmps - args.length) .un) H) : ACalls P f args H R := by
  intro B w0 c w vs hI hs ha
  refine calls_of_wp hf hb ?_
  have hT : RepT c (vs ++ Array.replicate (fn.ntmps - vs.size) undef) (args ++ List.replicate (fn.ntmps - args.length) .un) := by
    refine ⟨by simp [hs], fun i hi => ?_⟩
    by_cases hlt : i < args.length
    · have e1 : (vs ++ Array.replicate (fn.ntmps - vs.size) undef).getD i undef = vs.getD i undef := by
        have : i < vs.size := by omega
        have h2 : i < vs.size + (fn.ntmps - vs.size) := by omega
        simp [this, h2, Array.getElem_append_left this]
      have e2 : (args ++ List.replicate (fn.ntmps - args.length) AV.un).getD i .un = args[i] := by
        simp [List.getD_eq_getElem?_getD, List.getElem?_append_left hlt, hlt]
      rw [e1, e2]
      exact ha i hlt
    · have e2 : (args ++ List.replicate (fn.ntmps - args.length) AV.un).getD i .un = .un := by
        rw [List.getD_eq_getElem?_getD, List.getElem?_append_right (by omega), List.getElem?_replicate]
        split <;> rfl
      rw [e2]
      exact .un _
  refine wp_mono (h B w0 c c w _ (Le.refl c) hI hT rfl) ?_
  rintro e a' w' ⟨c', T', H', x1, x2, x3, x4, he, av, hR, hres⟩
  have key : ∃ v, (results fn a'.tmps).run P w' = .ok v w' ∧ Rep c' v av := by
    rcases hres with ⟨r, hr, h1⟩ | ⟨r, s, x, y, hr, h1, h2, rfl⟩ | ⟨r, s, q, x, y, z, hr, h1, h2, h3, rfl⟩
    · obtain ⟨v, e1, r1⟩ := h1.run x2 x3
      exact ⟨v, by simp [results_eq, hr, e1], r1⟩
    · obtain ⟨v, e1, r1⟩ := h1.run x2 x3
      obtain ⟨u, e2, r2⟩ := h2.run x2 x3
      refine ⟨.tuple #[v, u], by simp [results_eq, hr, e1, e2], .tup _ _ rfl fun i hi => ?_⟩
      rcases i with _ | _ | i
      · exact r1
      · exact r2
      · simp at hi; omega
    · obtain ⟨v, e1, r1⟩ := h1.run x2 x3
      obtain ⟨u, e2, r2⟩ := h2.run x2 x3
      obtain ⟨t, e3, r3⟩ := h3.run x2 x3
      refine ⟨.tuple #[v, u, t], by simp [results_eq, hr, e1, e2, e3], .tup _ _ rfl fun i hi => ?_⟩
      rcases i with _ | _ | _ | i
      · exact r1
      · exact r2
      · exact r3
      · simp at hi; omega
  obtain ⟨v, hv, hrep⟩ := key
  rcases he with rfl | rfl
  · exact ⟨x4, v, hv, v, av, H', c', rfl, x1, hrep, x2, hR⟩
  · exact ⟨x4, v, hv, v, av, H', c', rfl, x1, hrep, x2, hR⟩
end
end Go.AV
/-
  The AV logic, part 16: what is read of an exact block as data.
-/
namespace Go.AV
section
variable {P : Program} {E : Operand → AV} {H : HS} {R : AV → HS → Prop} {dst : Option Tmp} {ty : TypeId} {pos : String} {after : Array Edge} {gd : Option (Nat × Bool)}
theorem op_load_ptrsD {x : Operand} {t : TypeId} {d : TypeDesc} {id off n : Nat} {b : HB} (ds : List DV) (ht : P.underlying t = some d) (hd : notAgg d = false) (hn : (P.info? t).map (·.size) = some n) (hx : E x = .ptr id off) (hb : H.blks[id]? = some b)
    (hl : off + n ≤ b.cs.length) (hvs : (b.cs.drop off).take n = ds.map .d) (h1 : ∀ d ∈ ds, d.one = true) : OpR P ⟨dst, .load t x, ty, pos, after, gd⟩ E H (Ret (.d (.agg ds)) H) :=
  opR_weaken (op_load_ptrs ht hd hn hx hb hl hvs) fun _ _ h => rep_agg_d h1 h
end
end Go.AV
namespace Go.AV
theorem nb_le {Hs H : HS} (h : Ext Hs H) : Hs.nb ≤ H.nb := by
  obtain ⟨l, hl⟩ := h.blks
  simp [HS.nb, hl]
end Go.AV
namespace Go.AV
section
variable {P : Program} {T : List AV} {H H' : HS} {Φ : HS → Prop} {ops : Array Oper} {o : Oper} {l : List Oper} {fl : List Nat} {v : AV} {R : List AV → HS → Prop} {g d : Nat} {x : Bool}
theorem drun0X (ho : ∀ H, Φ H → OpR P o (evalT T) H (Ret v H)) (hg : o.guard = none) (h : DRunX P Φ ops l fl (putT T o.dst v) H R) : DRunX P Φ ops (o :: l) (0 :: fl) T H R := ⟨v, H, ⟨true, by rw [hg], rfl, ho⟩, .inr fun h => h, h⟩
theorem drun2X (ho : OpR P o (evalT T) H (Ret v H')) (hg : o.guard = none) (hΦ : l = [] ∨ Φ H') (h : DRunX P Φ ops l fl (putT T o.dst v) H' R) : DRunX P Φ ops (o :: l) (2 :: fl) T H R := ⟨v, H', ⟨true, by rw [hg], ho⟩, hΦ.imp id fun h _ => h, h⟩
theorem drun0Xw (hg : o.guard = some (g, x)) (hd : ((ops[g]?).bind (·.dst)) = some d) (hx : T[d]? = some (.d (.v (.bool x)))) (ho : ∀ H, Φ H → OpR P o (evalT T) H (Ret v H)) (h : DRunX P Φ ops l fl (putT T o.dst v) H R) : DRunX P Φ ops (o :: l) (0 :: fl) T H R :=
  ⟨v, H, ⟨true, by rw [hg]; exact .inl ⟨d, x, hd, hx, by simp⟩, rfl, ho⟩, .inr fun h => h, h⟩
end
/-- The element and the zero of a type, by its facts. -/
theorem setB_ok {H : HS} {id : Nat} {b : HB} {t : Option Nat} {n : Nat} (h : H.ok t n) : (H.setB id b).ok t n := h
theorem push_ok {H : HS} {e : TypeId} {cs : List AV} {t : Option Nat} {n : Nat} (h : H.ok t n) : (H.push e cs).ok t n := h
end Go.AV
namespace Go.AV
section
variable {P : Program} {E : Operand → AV} {H : HS} {dst : Option Tmp} {ty : TypeId} {pos : String} {after : Array Edge} {gd : Option (Nat × Bool)}
theorem op_load_ptrsW {x : Operand} {t : TypeId} {d : TypeDesc} {id off n : Nat} {b : HB} (ds : List DV) (ht : P.underlying t = some d) (hd : notAgg d = false) (hn : (P.info? t).map (·.size) = some n) (hx : E x = .ptr id off) (hb : H.blks[id]? = some b)
    (hl : off + n ≤ b.cs.length) (hvs : Weaks ((b.cs.drop off).take n) (ds.map .d)) (h1 : ∀ d ∈ ds, d.one = true) : OpR P ⟨dst, .load t x, ty, pos, after, gd⟩ E H (Ret (.d (.agg ds)) H) :=
  opR_weaken (op_load_ptrs ht hd hn hx hb hl rfl) fun c x h => Weak.aggD hvs h1 c x h
end
end Go.AV
/-
  The AV logic, part 17: what a call has made for itself is forgotten, and what it has written of the older blocks stays.
-/
namespace Go.AV
open Go.RowKit
theorem ACalls.tidyB {P : Program} {f : FuncId} {args : List AV} {H : HS} {R : AV → HS → Prop}
    (h : ACalls P f args H fun av H' => ∃ Hf : HS, Fits H.blks.length H.toks.length av ∧ Hf.blks.length = H.blks.length ∧ Hf.toks.length = H.toks.length ∧ (∀ (i : Nat) (b : HB), Hf.blks[i]? = some b → ∀ (j : Nat) (hj : j < b.cs.length), H.blks[i]? = some b ∨ Fits H.blks.length H.toks.length b.cs[j]) ∧ Ext Hf H' ∧ R av Hf) :
    ACalls P f args H R := by
  intro B w0 c w vs hI hs ha
  refine (h B w0 c w vs hI hs ha).mono ?_
  rintro e w' ⟨v, av, H', c', rfl, h1, h2, h3, Hf, h4, hl1, hl2, hfit, ⟨⟨l1, h5⟩, ⟨l2, h6⟩⟩, h7⟩
  have hcut : H'.cut H.blks.length H.toks.length = Hf := by
    rw [← hl1, ← hl2]
    cases Hf
    simp only [HS.cut, h5, h6, List.take_left]
  have i1 := h3.cut H.blks.length H.toks.length (fun i b hi hb j hj => by
    have hb' : Hf.blks[i]? = some b := by rw [h5, List.getElem?_append_left (by omega)] at hb; exact hb
    rcases hfit i b hb' j hj with hb2 | hf
    · have hlt : i < c.blk.length := by rw [hI.blkLen]; exact hi
      obtain ⟨_, _, cur, fr, _, _, _, q⟩ := hI.blk i _ b (List.getElem?_eq_getElem hlt) hb2
      have := (q j hj).fits
      rwa [hI.blkLen, hI.tokLen] at this
    · exact hf)
  rw [hcut] at i1
  refine ⟨v, av, Hf, c'.cut H.blks.length H.toks.length, rfl, ⟨h1.mem, fun i g hi => ?_, fun i e he => ?_⟩, h2.cut h4, i1, h7⟩
  · have : i < c.blk.length := (List.getElem?_eq_some_iff.1 hi).1
    show (c'.blk.take _)[i]? = _
    rw [List.getElem?_take, if_pos (by have := hI.blkLen; omega)]
    exact h1.blk i g hi
  · have : i < c.tok.length := (List.getElem?_eq_some_iff.1 he).1
    obtain ⟨e', q1, q2⟩ := h1.tok i e he
    refine ⟨e', ?_, q2⟩
    show (c'.tok.take _)[i]? = _
    rw [List.getElem?_take, if_pos (by have := hI.tokLen; omega)]
    exact q1
end Go.AV
