/-
  Values of layer 2 that are results in cells, and a value of none.
-/
import Derived.Test.YtjamnhofbkgblaaA19
import Derived.Test.YtjamnhofbkgblaaValOrd3
namespace Go.AV
/-- What is asked of a result, up to what it stands for. -/
def Wk (R : AV → HS → Prop) : AV → HS → Prop := fun v H => ∃ v', Weak v v' ∧ R v' H
section
variable {P : Program} {T : List AV} {H : HS} {rs : Array ResultVar} {R : AV → HS → Prop}
theorem acalls_of_awCW {f : FuncId} {fn : Func} {k : Code} {args : List AV} (hf : P.funcs[f]? = some fn) (hb : fn.body = some k)
    (h : AW P k (RetPostC P fn.results (Wk R)) (args ++ List.replicate (fn.ntmps - args.length) .un) H) : ACalls P f args H R := (acalls_of_awC hf hb h).weak fun _ _ h => h
/-- One result of three cells or less, as data. -/
inductive ResD (P : Program) (T : List AV) (H : HS) : ResultVar → DV → Prop
  | tmp {t : Tmp} {x : DV} (h : T[t]? = some (.d x)) : ResD P T H (.tmp t) x
  | tmpW {t : Tmp} {v : AV} (x : DV) (h : T[t]? = some v) (hw : Weak v (.d x)) : ResD P T H (.tmp t) x
  | cell {a : Tmp} {ty : TypeId} {d : TypeDesc} {id off : Nat} {b : HB} {v : AV} (x : DV) (ht : P.underlying ty = some d) (hd : notAgg d = true) (hx : T[a]? = some (.ptr id off)) (hb : H.blks[id]? = some b) (hv : b.cs[off]? = some v) (hw : Weak v (.d x)) : ResD P T H (.cell a ty) x
  | cells {a : Tmp} {ty : TypeId} {d : TypeDesc} {id n : Nat} {b : HB} (ds : List DV) (ht : P.underlying ty = some d) (hd : notAgg d = false) (hn : (P.info? ty).map (·.size) = some n) (hx : T[a]? = some (.ptr id 0)) (hb : H.blks[id]? = some b)
      (hl : b.cs.length = n) (hw : Weaks b.cs (ds.map .d)) (h1 : ∀ d ∈ ds, d.one = true) : ResD P T H (.cell a ty) (.agg ds)
theorem ResD.res {r : ResultVar} {x : DV} (h : ResD P T H r x) : ∃ v, Res1 P T H r v ∧ Weak v (.d x) := by
  cases h with
  | tmp h => exact ⟨_, .tmp h, Weak.refl _⟩
  | tmpW x h hw => exact ⟨_, .tmp h, hw⟩
  | cell x ht hd hx hb hv hw => exact ⟨_, .cell ht hd hx hb hv, hw⟩
  | @cells a ty d id n b ds ht hd hn hx hb hl hw h1 =>
    refine ⟨_, .cells ht hd hn hx hb (by omega) rfl, ?_⟩
    rw [List.drop_zero, List.take_of_length_le (by omega)]
    exact Weak.aggD hw h1
theorem retD1 {r : ResultVar} {x : DV} (hr : rs = #[r]) (h1 : ResD P T H r x) (h : R (.d x) H) : RetPostC P rs (Wk R) .ret T H := by
  obtain ⟨v, a, b⟩ := h1.res
  exact retC1 hr a ⟨_, b, h⟩
theorem retD2 {r s : ResultVar} {x y : DV} (hr : rs = #[r, s]) (h1 : ResD P T H r x) (h2 : ResD P T H s y) (h : R (.tup [.d x, .d y]) H) : RetPostC P rs (Wk R) .ret T H := by
  obtain ⟨v, a, b⟩ := h1.res
  obtain ⟨u, c, d⟩ := h2.res
  exact retC2 hr a c ⟨_, Weak.tup (.cons b (.cons d .nil)), h⟩
theorem retD3 {r s q : ResultVar} {x y z : DV} (hr : rs = #[r, s, q]) (h1 : ResD P T H r x) (h2 : ResD P T H s y) (h3 : ResD P T H q z) (h : R (.tup [.d x, .d y, .d z]) H) : RetPostC P rs (Wk R) .ret T H := by
  obtain ⟨v, a, b⟩ := h1.res
  obtain ⟨u, c, d⟩ := h2.res
  obtain ⟨w, e, f⟩ := h3.res
  exact retC3 hr a c e ⟨_, Weak.tup (.cons b (.cons d (.cons f .nil))), h⟩
end
namespace Val
open Go.AV.Ord Go.AV.Oct
abbrev vB (t : TypeId) (v : V) : HB := ⟨t, (vC v).map .d, false⟩
/-- A block that holds a value: as data, or cell by cell. -/
def VBl (t : TypeId) (b : HB) (v : V) : Prop := b.elem = t ∧ b.frz = false ∧ b.cs.length = 6 ∧ Weaks b.cs ((vC v).map .d)
theorem VBl.v (t : TypeId) (v : V) : VBl t (vB t v) v := ⟨rfl, rfl, by simp [vC_len], weaks_refl _⟩
theorem VBl.z (t : TypeId) : VBl t (vBlk t 0 false 0 [] nilS nilS) V0 := ⟨rfl, rfl, rfl, weak6 weak_nilL weak_nilF⟩
section
variable {P : Program} {E : Operand → AV} {H : HS} {dst : Option Tmp} {ty : TypeId} {pos : String} {after : Array Edge} {gd : Option (Nat × Bool)}
theorem resV {T : List AV} {t : TypeId} {a : Tmp} {d : TypeDesc} {id : Nat} {b : HB} (v : V) (ht : P.underlying t = some d) (hd : notAgg d = false) (hn : (P.info? t).map (·.size) = some 6) (hx : T[a]? = some (.ptr id 0)) (hb : H.blks[id]? = some b) (hv : VBl t b v) : ResD P T H (.cell a t) (.agg (vC v)) :=
  .cells (vC v) ht hd hn hx hb hv.2.2.1 hv.2.2.2 (vC_one v)
/-- A value is stored where a value stands. -/
theorem op_stV {x y : Operand} {t : TypeId} {id : Nat} {b : HB} {v : V} (w : V) (hn : (P.info? t).map (·.size) = some 6) (hx : E x = .ptr id 0) (hb : H.blks[id]? = some b) (hv : VBl t b v) (hy : E y = .d (.agg (vC w))) : OpR P ⟨dst, .store t x y, ty, pos, after, gd⟩ E H (Ret .un (H.setB id (vB t w))) := by
  obtain ⟨e1, e2, e3, _⟩ := hv
  refine op_storeV w hn hx hb hy (by omega) e2 ?_
  obtain ⟨el, cs, fz⟩ := b
  simp only at e1 e2 e3
  subst e1 e2
  match cs, e3 with
  | [_, _, _, _, _, _], _ => unfold vB; rw [vC_eq w]; rfl
theorem op_ldV {x : Operand} {t : TypeId} {d : TypeDesc} {id : Nat} {b : HB} (v : V) (ht : P.underlying t = some d) (hd : notAgg d = false) (hn : (P.info? t).map (·.size) = some 6) (hx : E x = .ptr id 0) (hb : H.blks[id]? = some b) (hv : VBl t b v) : OpR P ⟨dst, .load t x, ty, pos, after, gd⟩ E H (Ret (.d (.agg (vC v))) H) := by
  obtain ⟨e1, e2, e3, e4⟩ := hv
  refine opR_weaken (op_load_ptrs ht hd hn hx hb (by omega) rfl) fun c x h => ?_
  rw [List.drop_zero, List.take_of_length_le (by omega)] at h
  exact Weak.aggD e4 (vC_one v) c x h
/-- A field of a value that stands in a block. -/
theorem op_ldV1 {x : Operand} {t tt : TypeId} {d : TypeDesc} {id k : Nat} {b : HB} {v : V} {y : DV} (ht : P.underlying tt = some d) (hd : notAgg d = true) (hx : E x = .ptr id k) (hb : H.blks[id]? = some b) (hv : VBl t b v) (hk : ([I v.kind, TF v.yes, .v (.int .i64 v.num), S v.text, .lst 6 (v.list.map vD), .lst 7 (v.fields.map fD)] : List DV)[k]? = some y) : OpR P ⟨dst, .load tt x, ty, pos, after, gd⟩ E H (Ret (.d y) H) := by
  obtain ⟨e1, e2, e3, e4⟩ := hv
  have hk6 : k < b.cs.length := by have := (List.getElem?_eq_some_iff.1 hk).1; simp at this; omega
  refine opR_weaken (op_load_ptr ht hd hx hb (List.getElem?_eq_getElem hk6)) fun c x h => ?_
  have := e4.get c (fun _ => x) 
  rw [vC_eq] at e4
  have key : ∀ {l m : List AV} (_ : Weaks l m) (k : Nat) (h1 : k < l.length) {z : AV}, m[k]? = some z → Weak l[k] z := by
    intro l m hw
    induction hw with
    | nil => intro k h1; simp at h1
    | cons a _ ih =>
      intro k h1 z hz
      cases k with
      | zero => simp at hz; subst hz; exact a
      | succ k => exact ih k (by simpa using h1) (by simpa using hz)
  exact key e4 k hk6 (by rw [List.getElem?_map, hk]; rfl) c x h
theorem op_zeroV {t : TypeId} {fs : Array Field} {z : Value} {pl : List (Nat × Nat)} (ht : P.underlying t = some (.struct fs)) (hz : (P.info? t).map (·.zero) = some (some z)) (hpl : places P fs.toList = some pl)
    (hcs : z.cells.toList.map constAV = vs6 0 false 0 [] nilS nilS) : OpR P ⟨dst, .build t #[], ty, pos, after, gd⟩ E H (Ret (.d (.agg (vC V0))) H) :=
  opR_weaken (op_build (ps := []) ht hz hpl rfl rfl (cs := vs6 0 false 0 [] nilS nilS) (by simp [fillA, hcs])) fun c x h => Weak.aggD (weak6 weak_nilL weak_nilF) (vC_one V0) c x h
end
end Val
end Go.AV
