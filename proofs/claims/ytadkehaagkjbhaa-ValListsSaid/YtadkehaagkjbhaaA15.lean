/-
  The AV logic, part 15: exact blocks by name; results that stand in cells.
-/
import Derived.Test.YtadkehaagkjbhaaA14
namespace Go.AV
open Go.RowKit

/-! ### Exact blocks by name -/
def HS.setB (H : HS) (id : Nat) (b : HB) : HS := { H with blks := H.blks.set id b }
theorem put_setB {H : HS} {id off : Nat} {vs : List AV} {b : HB} (h : H.blks[id]? = some b) : H.put id off vs = H.setB id { b with cs := putL b.cs off vs } := by
  have : (H.put id off vs).blks = (H.setB id { b with cs := putL b.cs off vs }).blks := by
    apply List.ext_getElem?
    intro j
    have hlt := (List.getElem?_eq_some_iff.1 h).1
    by_cases hj : j = id
    · subst hj
      rw [put_blks_at h]
      simp [HS.setB, hlt]
    · rw [put_blks_ne hj]
      have hne : ¬ id = j := fun e => hj e.symm
      simp [HS.setB, hne]
  cases H
  simp only [HS.put, HS.setB] at this ⊢
  rw [this]
theorem setB_self {H : HS} {id : Nat} {b : HB} (h : H.blks[id]? = some b) : H.setB id b = H := by
  obtain ⟨hlt, rfl⟩ := List.getElem?_eq_some_iff.1 h
  cases H
  simp [HS.setB]
theorem setB_at {H : HS} {id : Nat} {b b' : HB} (h : H.blks[id]? = some b) : (H.setB id b').blks[id]? = some b' := by
  have hlt := (List.getElem?_eq_some_iff.1 h).1
  simp [HS.setB, hlt]
theorem setB_ne {H : HS} {id j : Nat} {b : HB} (h : j ≠ id) : (H.setB id b).blks[j]? = H.blks[j]? := by
  have hne : ¬ id = j := fun e => h e.symm
  simp [HS.setB, hne]
theorem setB_setB {H : HS} {id : Nat} {b b' : HB} : (H.setB id b).setB id b' = H.setB id b' := by simp [HS.setB]
theorem setB_toks {H : HS} {id : Nat} {b : HB} : (H.setB id b).toks = H.toks := rfl
theorem setB_nb {H : HS} {id : Nat} {b : HB} : (H.setB id b).nb = H.nb := by simp [HS.setB, HS.nb]
theorem push_nb {H : HS} {e : TypeId} {cs : List AV} : (H.push e cs).nb = H.nb + 1 := by simp [HS.push, HS.nb]
theorem push_at {H : HS} {e : TypeId} {cs : List AV} : (H.push e cs).blks[H.nb]? = some ⟨e, cs, false⟩ := by simp [HS.push, HS.nb]
theorem push_ne {H : HS} {e : TypeId} {cs : List AV} {j : Nat} {b : HB} (h : H.blks[j]? = some b) : (H.push e cs).blks[j]? = some b := by
  have hlt := (List.getElem?_eq_some_iff.1 h).1
  simp only [HS.push]
  rw [List.getElem?_append_left hlt]
  exact h
theorem up_blks' {H : HS} {t : Option Nat} {n j : Nat} : (H.up t n).blks[j]? = H.blks[j]? := by rw [HS.up_blks]
theorem Ext.setB {Hs H : HS} {id : Nat} {b : HB} (h : Ext Hs H) (hlt : Hs.nb ≤ id) : Ext Hs (H.setB id b) := h.of rfl fun j hj => setB_ne (by omega)
/-- A place for what a call has made. -/
def NewTok (Hs : HS) (t : Option Nat) : Prop := ∀ i, t = some i → Hs.toks.length ≤ i
theorem Ext.upN {Hs H : HS} {t : Option Nat} {n m : Nat} (h : Ext Hs H) (hn : NewTok Hs t) (hok : H.ok t m) : Ext Hs (H.up t n) ∧ NewTok Hs (some (H.tk t)) := by
  obtain ⟨l, hl⟩ := h.toks
  cases t with
  | none => 
    refine ⟨⟨by rw [HS.up_blks]; exact h.blks, ⟨l ++ [n], by simp [HS.up, hl]⟩⟩, fun i hi => ?_⟩
    cases hi
    simp [HS.tk, hl]
  | some k =>
    have hk := hn k rfl
    refine ⟨⟨by rw [HS.up_blks]; exact h.blks, ?_⟩, fun i hi => ?_⟩
    · refine ⟨l.set (k - Hs.toks.length) n, ?_⟩
      simp only [HS.up, hl]
      rw [List.set_append_right _ _ hk]
    · cases hi
      exact hk
theorem NewTok.none (Hs : HS) : NewTok Hs none := fun _ h => by cases h

section
variable {P : Program} {E : Operand → AV} {H : HS} {R : AV → HS → Prop} {dst : Option Tmp} {ty : TypeId} {pos : String} {after : Array Edge} {gd : Option (Nat × Bool)}
theorem op_storeB {x y : Operand} {t : TypeId} {id off n : Nat} {b b' : HB} {H' : HS} {vs : List AV} (hn : (P.info? t).map (·.size) = some n) (hx : E x = .ptr id off) (hb : H.blks[id]? = some b) (hu : E y ≠ .un) (hvs : (E y).cells = vs) (hl : vs.length = n) (hfit : off + n ≤ b.cs.length)
    (hone : ∀ v ∈ vs, v.one = true) (hfz : b.frz = false) (hb' : (⟨b.elem, putL b.cs off vs, b.frz⟩ : HB) = b') (hH : H.setB id b' = H') : OpR P ⟨dst, .store t x y, ty, pos, after, gd⟩ E H (Ret .un H') := by
  have h := op_store (dst := dst) (ty := ty) (pos := pos) (after := after) (gd := gd) hn hx hb hu hvs hl hfit hone hfz
  rw [put_setB hb] at h
  have e : ({ b with cs := putL b.cs off vs } : HB) = b' := hb'
  rwa [e, hH] at h
end

/-! ### Results that stand in cells -/
inductive Res1 (P : Program) (T : List AV) (H : HS) : ResultVar → AV → Prop
  | tmp {t : Tmp} {av : AV} (h : T[t]? = some av) : Res1 P T H (.tmp t) av
  | cell {a : Tmp} {ty : TypeId} {d : TypeDesc} {id off : Nat} {b : HB} {v : AV} (ht : P.underlying ty = some d) (hd : notAgg d = true) (hx : T[a]? = some (.ptr id off)) (hb : H.blks[id]? = some b) (hv : b.cs[off]? = some v) : Res1 P T H (.cell a ty) v
  | cells {a : Tmp} {ty : TypeId} {d : TypeDesc} {id off n : Nat} {b : HB} {vs : List AV} (ht : P.underlying ty = some d) (hd : notAgg d = false) (hn : (P.info? ty).map (·.size) = some n) (hx : T[a]? = some (.ptr id off)) (hb : H.blks[id]? = some b)
      (hl : off + n ≤ b.cs.length) (hvs : (b.cs.drop off).take n = vs) : Res1 P T H (.cell a ty) (.agg vs)
def resRun (tmps : Array Value) : ResultVar → Sem Value
  | .tmp t => pure (tmps.getD t undef)
  | .cell a t => do loadVar t (← asAddr (tmps.getD a undef))
theorem Res1.run {P : Program} {T : List AV} {H : HS} {B : Nat} {w0 w : World} {c : Ctx} {tmps : Array Value} (hI : Inv B w0 c H w) (hT : RepT c tmps T) {r : ResultVar} {av : AV} (h : Res1 P T H r av) : ∃ v, (resRun tmps r).run P w = .ok v w ∧ Rep c v av := by
  cases h with
  | tmp h => exact ⟨_, rfl, getD_of hT h⟩
  | @cell a ty d id off b _ ht hd hx hb hv =>
    obtain ⟨g, e, hg⟩ := (getD_of hT hx).ptr_inv
    obtain ⟨u, hc, hr⟩ := hI.cell hg hb hv
    exact ⟨u, by simp [resRun, e, asAddr, run_load_one ht hd w hc], hr⟩
  | @cells a ty d id off n b vs ht hd hn hx hb hl hvs =>
    obtain ⟨g, e, hg⟩ := (getD_of hT hx).ptr_inv
    subst hvs
    have hall : ∀ j, j < n → ∃ u, w.cell? ⟨g, off + j, none⟩ = some u ∧ ∃ v, b.cs[off + j]? = some v ∧ Rep c u v := fun j hj => by
      have hlt : off + j < b.cs.length := by omega
      obtain ⟨u, h2, h3⟩ := hI.cell hg hb (List.getElem?_eq_getElem hlt)
      exact ⟨u, h2, _, List.getElem?_eq_getElem hlt, h3⟩
    let f : Nat → Value := fun j => (w.cell? ⟨g, off + j, none⟩).getD undef
    refine ⟨.agg ((List.range n).map f).toArray, ?_, .agg _ _ (by simp; omega) (fun i hi => ?_)⟩
    · have := run_load_agg (P := P) ht hd hn (g := g) (o := off) ((List.range n).map f) (by simp) w (fun j u hu => by
        have hj : j < n := by have := (List.getElem?_eq_some_iff.1 hu).1; simpa using this
        have : u = f j := by simp [hj] at hu; exact hu.symm
        subst this
        obtain ⟨u, h2, _⟩ := hall j hj
        simp [f, h2])
      simp [resRun, e, asAddr, this]
    · have hi' : i < n := by simp at hi; omega
      obtain ⟨u, h2, v, h3, h4⟩ := hall i hi'
      have e1 : (((List.range n).map f).toArray).getD i undef = u := by simp [hi', f, h2]
      rw [e1]
      have e2 : ((b.cs.drop off).take n)[i] = v := by
        rw [List.getElem_take, List.getElem_drop]
        have := (List.getElem?_eq_some_iff.1 h3).2
        exact this
      rw [e2]
      exact h4
def RetPostC (P : Program) (rs : Array ResultVar) (R : AV → HS → Prop) : Post := fun e T H => (e = .ret ∨ e = .normal) ∧
  ∃ av, R av H ∧ ((∃ r, rs = #[r] ∧ Res1 P T H r av) ∨ (∃ r s x y, rs = #[r, s] ∧ Res1 P T H r x ∧ Res1 P T H s y ∧ av = .tup [x, y]) ∨ (∃ r s q x y z, rs = #[r, s, q] ∧ Res1 P T H r x ∧ Res1 P T H s y ∧ Res1 P T H q z ∧ av = .tup [x, y, z]))
section
variable {P : Program} {T : List AV} {H : HS} {rs : Array ResultVar} {R : AV → HS → Prop}
theorem retC1 {r : ResultVar} {x : AV} (hr : rs = #[r]) (h1 : Res1 P T H r x) (h : R x H) : RetPostC P rs R .ret T H := ⟨.inl rfl, _, h, .inl ⟨r, hr, h1⟩⟩
theorem retC2 {r s : ResultVar} {x y : AV} (hr : rs = #[r, s]) (h1 : Res1 P T H r x) (h2 : Res1 P T H s y) (h : R (.tup [x, y]) H) : RetPostC P rs R .ret T H := ⟨.inl rfl, _, h, .inr (.inl ⟨r, s, x, y, hr, h1, h2, rfl⟩)⟩
theorem retC3 {r s q : ResultVar} {x y z : AV} (hr : rs = #[r, s, q]) (h1 : Res1 P T H r x) (h2 : Res1 P T H s y) (h3 : Res1 P T H q z) (h : R (.tup [x, y, z]) H) : RetPostC P rs R .ret T H :=
  ⟨.inl rfl, _, h, .inr (.inr ⟨r, s, q, x, y, z, hr, h1, h2, h3, rfl⟩)⟩
theorem results_eq {fn : Func} {tmps : Array Value} : results fn tmps = (do let vs ← fn.results.mapM (resRun tmps); pure (if h : vs.size = 1 then vs[0] else .tuple vs)) := by
  unfold results
  congr 1
theorem acalls_of_awC {f : FuncId} {fn : Func} {k : Code} {args : List AV} (hf : P.funcs[f]? = some fn) (hb : fn.body = some k)
    (h : AW P k (RetPostC P fn.results R) (args ++ List.replicate (fn.ntmps - args.length) .un) H) : ACalls P f args H R := by
  intro B w0 c w vs hI hs ha
  refine calls_of_wp hf hb ?_
  have hT : RepT c (vs ++ Array.replicate (fn.ntmps - vs.size) undef) (args ++ List.replicate (fn.ntmps - args.length) .un) := by
    refine ⟨by simp [hs], fun i hi => ?_⟩
    by_cases hlt : i < args.length
    · have e1 : (vs ++ Array.replicate (fn.ntmps - vs.size) undef).getD i undef = vs.getD i undef := by
        have : i < vs.size := by omega
        have h2 : i < vs.size + (fn.ntmps - vs.size) := by omega
        simp [this, h2, Array.getElem_append_left this]
      have e2 : (args ++ List.replicate (fn.ntmps - args.length) AV.un).getD i .un = args[i] := by
        simp [List.getD_eq_getElem?_getD, List.getElem?_append_left hlt, hlt]
      rw [e1, e2]
      exact ha i hlt
    · have e2 : (args ++ List.replicate (fn.ntmps - args.length) AV.un).getD i .un = .un := by
        rw [List.getD_eq_getElem?_getD, List.getElem?_append_right (by omega), List.getElem?_replicate]
        split <;> rfl
      rw [e2]
      exact .un _
  refine wp_mono (h B w0 c c w _ (Le.refl c) hI hT rfl) ?_
  rintro e a' w' ⟨c', T', H', x1, x2, x3, x4, he, av, hR, hres⟩
  have key : ∃ v, (results fn a'.tmps).run P w' = .ok v w' ∧ Rep c' v av := by
    rcases hres with ⟨r, hr, h1⟩ | ⟨r, s, x, y, hr, h1, h2, rfl⟩ | ⟨r, s, q, x, y, z, hr, h1, h2, h3, rfl⟩
    · obtain ⟨v, e1, r1⟩ := h1.run x2 x3
      exact ⟨v, by simp [results_eq, hr, e1], r1⟩
    · obtain ⟨v, e1, r1⟩ := h1.run x2 x3
      obtain ⟨u, e2, r2⟩ := h2.run x2 x3
      refine ⟨.tuple #[v, u], by simp [results_eq, hr, e1, e2], .tup _ _ rfl fun i hi => ?_⟩
      rcases i with _ | _ | i
      · exact r1
      · exact r2
      · simp at hi; omega
    · obtain ⟨v, e1, r1⟩ := h1.run x2 x3
      obtain ⟨u, e2, r2⟩ := h2.run x2 x3
      obtain ⟨t, e3, r3⟩ := h3.run x2 x3
      refine ⟨.tuple #[v, u, t], by simp [results_eq, hr, e1, e2, e3], .tup _ _ rfl fun i hi => ?_⟩
      rcases i with _ | _ | _ | i
      · exact r1
      · exact r2
      · exact r3
      · simp at hi; omega
  obtain ⟨v, hv, hrep⟩ := key
  rcases he with rfl | rfl
  · exact ⟨x4, v, hv, v, av, H', c', rfl, x1, hrep, x2, hR⟩
  · exact ⟨x4, v, hv, v, av, H', c', rfl, x1, hrep, x2, hR⟩
end
end Go.AV
