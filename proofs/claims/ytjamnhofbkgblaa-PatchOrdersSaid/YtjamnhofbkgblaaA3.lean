/-
  The AV logic, part 3: operations, code, calls; regions in the order of the text, and regions that draw their order.
-/
import Derived.Test.YtjamnhofbkgblaaA2
import Derived.LoopN
import Derived.Deep.LoopGhost
namespace Go.AV
open Go.RowKit

def constAV (v : Value) : AV := match plain v with
  | true => .d (.v v)
  | false => .un
def evalT (T : List AV) : Operand → AV
  | .tmp t => T.getD t .un
  | .const v => constAV v
  | .func f => .fn (.func f) [] []
  | .global _ => .un
def putT (T : List AV) (d : Option Tmp) (v : AV) : List AV :=
  match d with
  | none => T
  | some d => T.set d v
theorem zS {T : List AV} {d : Tmp} {v : AV} : putT T (some d) v = T.set d v := rfl
theorem zN {T : List AV} {v : AV} : putT T none v = T := rfl
theorem zH {α : Type} {a b : α} {l : List α} : (a :: l).set 0 b = b :: l := rfl
theorem zT {α : Type} {a b : α} {l : List α} {n : Nat} : (a :: l).set (n + 1) b = a :: l.set n b := rfl
structure RepT (c : Ctx) (tmps : Array Value) (T : List AV) : Prop where
  size : tmps.size = T.length
  at_ : ∀ i, i < T.length → Rep c (tmps.getD i undef) (T.getD i .un)
theorem RepT.mono {c c' : Ctx} (hc : Le c c') {tmps : Array Value} {T : List AV} (h : RepT c tmps T) : RepT c' tmps T := ⟨h.size, fun i hi => (h.at_ i hi).mono hc⟩
theorem rep_const (c : Ctx) (v : Value) : Rep c v (constAV v) := by
  unfold constAV
  cases h : plain v with
  | true => exact .d (.v v h)
  | false => exact .un v
theorem rep_func (c : Ctx) (f : FuncId) : Rep c (.func (.func f) #[] #[]) (.fn (.func f) [] []) := .fn _ _ _ _ _ rfl (fun i hi => by simp at hi) rfl (fun i hi => by simp at hi)
theorem RepT.eval {c : Ctx} {a : Act} {T : List AV} (h : RepT c a.tmps T) (x : Operand) : Rep c (a.eval x) (evalT T x) := by
  cases x with
  | tmp t =>
    show Rep c (a.tmps.getD t undef) (T.getD t .un)
    by_cases ht : t < T.length
    · exact h.at_ t ht
    · have hle : T.length ≤ t := Nat.le_of_not_lt ht
      have : T.getD t .un = .un := by rw [List.getD_eq_getElem?_getD, List.getElem?_eq_none hle]; rfl
      rw [this]; exact .un _
  | const v => exact rep_const c v
  | func f => exact rep_func c f
  | global g => exact .un _
theorem RepT.put {c : Ctx} {a : Act} {T : List AV} (h : RepT c a.tmps T) (d : Option Tmp) {v : Value} {y : AV} (hv : Rep c v y) : RepT c (a.put d v).tmps (putT T d y) := by
  cases d with
  | none => exact h
  | some d =>
    refine ⟨by simp [Act.put, putT, h.size], fun i hi => ?_⟩
    have hi' : i < T.length := by simpa [putT] using hi
    by_cases hd : d = i
    · subst hd
      have h1 : d < a.tmps.size := by rw [h.size]; exact hi'
      simp only [Act.put, putT]
      simp [List.getD_eq_getElem?_getD, hi', h1]
      exact hv
    · have := h.at_ i hi'
      simp only [Act.put, putT]
      simp only [List.getD_eq_getElem?_getD, List.getElem?_set_ne hd] at this ⊢
      simpa [Array.getElem?_setIfInBounds_ne hd] using this

theorem getD_left {xs ys : Array Value} {i : Nat} (h : i < xs.size) (u : Value) : (xs ++ ys).getD i u = xs.getD i u := by
  rw [Array.getD_eq_getD_getElem?, Array.getD_eq_getD_getElem?, Array.getElem?_append_left h]
theorem getD_right {xs ys : Array Value} {i : Nat} (h : xs.size ≤ i) (u : Value) : (xs ++ ys).getD i u = ys.getD (i - xs.size) u := by
  rw [Array.getD_eq_getD_getElem?, Array.getD_eq_getD_getElem?, Array.getElem?_append_right h]

/-- What an operation comes to. -/
def OpR (P : Program) (o : Oper) (E : Operand → AV) (H : HS) (R : AV → HS → Prop) : Prop :=
  ∀ (B : Nat) (w0 : World) (c : Ctx) (w : World) (a : Act) (next : Act → World → Prop) (Q : Exit → Act → World → Prop), Inv B w0 c H w → (∀ x ∈ o.op.operands, Rep c (a.eval x) (E x)) →
    (∀ v' w' c' av H', Le c c' → Rep c' v' av → Inv B w0 c' H' w' → R av H' → next (a.put o.dst v') w') → o.wp P a w next Q
def Ret (v : AV) (H : HS) : AV → HS → Prop := fun v' H' => v' = v ∧ H' = H

/-- What a call comes to. -/
def ACalls (P : Program) (f : FuncId) (args : List AV) (H : HS) (R : AV → HS → Prop) : Prop :=
  ∀ (B : Nat) (w0 : World) (c : Ctx) (w : World) (vs : Array Value), Inv B w0 c H w → vs.size = args.length → (∀ i (hi : i < args.length), Rep c (vs.getD i undef) args[i]) →
    Calls P f vs w fun e w' => ∃ v av H' c', e = .returned v ∧ Le c c' ∧ Rep c' v av ∧ Inv B w0 c' H' w' ∧ R av H'
theorem ACalls.mono {P : Program} {f : FuncId} {args : List AV} {H : HS} {R R' : AV → HS → Prop} (h : ACalls P f args H R) (hr : ∀ v H', R v H' → R' v H') : ACalls P f args H R' :=
  fun B w0 c w vs hI hs ha => (h B w0 c w vs hI hs ha).mono fun _ _ ⟨v, av, H', c', h1, h2, h3, h4, h5⟩ => ⟨v, av, H', c', h1, h2, h3, h4, hr _ _ h5⟩

abbrev Post := Exit → List AV → HS → Prop
def Done (B : Nat) (w0 : World) (c0 : Ctx) (Q : Post) : Exit → Act → World → Prop := fun e a w => ∃ c T H, Le c0 c ∧ Inv B w0 c H w ∧ RepT c a.tmps T ∧ a.defers = [] ∧ Q e T H
/-- Code. -/
def AW (P : Program) (k : Code) (Q : Post) (T : List AV) (H : HS) : Prop :=
  ∀ (B : Nat) (w0 : World) (c0 c : Ctx) (w : World) (a : Act), Le c0 c → Inv B w0 c H w → RepT c a.tmps T → a.defers = [] → k.wp P (Done B w0 c0 Q) a w
/-- The rest of a region. -/
def AL (P : Program) (ops : Array Oper) (l : List Oper) (Q : Post) (T : List AV) (H : HS) : Prop :=
  ∀ (B : Nat) (w0 : World) (c0 c : Ctx) (w : World) (a : Act), Le c0 c → Inv B w0 c H w → RepT c a.tmps T → a.defers = [] → wpList P ops (Done B w0 c0 Q) l a w

section
variable {P : Program} {Q : Post} {T : List AV} {H : HS}

theorem aw_mono {k : Code} {Q' : Post} (h : AW P k Q T H) (hq : ∀ e T H, Q e T H → Q' e T H) : AW P k Q' T H :=
  fun B w0 c0 c w a h0 h1 h2 h3 => wp_mono (h B w0 c0 c w a h0 h1 h2 h3) fun _ _ _ ⟨c, T, H, x1, x2, x3, x4, x5⟩ => ⟨c, T, H, x1, x2, x3, x4, hq _ _ _ x5⟩
theorem aw_skip (h : Q .normal T H) : AW P .skip Q T H := fun _ _ _ c _ _ h0 h1 h2 h3 => wp_skip ⟨c, T, H, h0, h1, h2, h3, h⟩
theorem aw_exit {id : Nat} (h : Q (.exit id) T H) : AW P (.exit id) Q T H := fun _ _ _ c _ _ h0 h1 h2 h3 => wp_exit ⟨c, T, H, h0, h1, h2, h3, h⟩
theorem aw_ret (h : Q .ret T H) : AW P .ret Q T H := fun _ _ _ c _ _ h0 h1 h2 h3 => wp_ret ⟨c, T, H, h0, h1, h2, h3, h⟩
def Then (P : Program) (y : Code) (Q : Post) : Post
  | .normal, T, H => AW P y Q T H
  | e, T, H => Q e T H
theorem then_normal {y : Code} (h : AW P y Q T H) : Then P y Q .normal T H := h
theorem then_exit {y : Code} {i : Nat} (h : Q (.exit i) T H) : Then P y Q (.exit i) T H := h
theorem then_ret {y : Code} (h : Q .ret T H) : Then P y Q .ret T H := h
theorem aw_seq {x y : Code} (h : AW P x (Then P y Q) T H) : AW P (.seq x y) Q T H := by
  intro B w0 c0 c w a h0 h1 h2 h3
  refine wp_seq (wp_mono (h B w0 c0 c w a h0 h1 h2 h3) ?_)
  rintro e a' w' ⟨c', T', H', x1, x2, x3, x4, x5⟩
  cases e with
  | normal => exact x5 B w0 c0 c' w' a' x1 x2 x3 x4
  | exit id => exact ⟨c', T', H', x1, x2, x3, x4, x5⟩
  | goto l => exact ⟨c', T', H', x1, x2, x3, x4, x5⟩
  | ret => exact ⟨c', T', H', x1, x2, x3, x4, x5⟩
  | panic ch => exact ⟨c', T', H', x1, x2, x3, x4, x5⟩
  | outgrown => exact ⟨c', T', H', x1, x2, x3, x4, x5⟩
def InBlock (id : Nat) (Q : Post) : Post
  | .exit id', T, H => if id' = id then Q .normal T H else Q (.exit id') T H
  | e, T, H => Q e T H
theorem inBlock_normal {id : Nat} (h : Q .normal T H) : InBlock id Q .normal T H := h
theorem inBlock_ret {id : Nat} (h : Q .ret T H) : InBlock id Q .ret T H := h
theorem inBlock_here {id : Nat} (h : Q .normal T H) : InBlock id Q (.exit id) T H := by simpa [InBlock] using h
theorem inBlock_past {id i : Nat} (hne : (i == id) = false) (h : Q (.exit i) T H) : InBlock id Q (.exit i) T H := by
  have : i ≠ id := by simpa using hne
  simpa [InBlock, this] using h
theorem aw_block {id : Nat} {k : Code} (h : AW P k (InBlock id Q) T H) : AW P (.block id k) Q T H := by
  intro B w0 c0 c w a h0 h1 h2 h3
  refine wp_block (wp_mono (h B w0 c0 c w a h0 h1 h2 h3) ?_)
  rintro e a' w' ⟨c', T', H', x1, x2, x3, x4, x5⟩
  cases e with
  | exit id' =>
    simp only [InBlock] at x5
    simp only [Exit.inBlock]
    split
    · rename_i hh
      rw [if_pos hh] at x5
      exact ⟨c', T', H', x1, x2, x3, x4, x5⟩
    · rename_i hh
      rw [if_neg hh] at x5
      exact ⟨c', T', H', x1, x2, x3, x4, x5⟩
  | normal => exact ⟨c', T', H', x1, x2, x3, x4, x5⟩
  | goto l => exact ⟨c', T', H', x1, x2, x3, x4, x5⟩
  | ret => exact ⟨c', T', H', x1, x2, x3, x4, x5⟩
  | panic ch => exact ⟨c', T', H', x1, x2, x3, x4, x5⟩
  | outgrown => exact ⟨c', T', H', x1, x2, x3, x4, x5⟩
theorem aw_cond {k : Operand} {x y : Code} {b : Bool} (hc : evalT T k = .d (.v (.bool b))) (ht : b = true → AW P x Q T H) (hf : b = false → AW P y Q T H) : AW P (.cond k x y) Q T H := by
  intro B w0 c0 c w a h0 h1 h2 h3
  have he := h2.eval k
  rw [hc] at he
  have he' := he.v_eq
  exact wp_cond_split he' (fun h => ht h B w0 c0 c w a h0 h1 h2 h3) (fun h => hf h B w0 c0 c w a h0 h1 h2 h3)
def Again (n : Nat) (I : Nat → List AV → HS → Prop) (Q : Post) : Post
  | .normal, T, H => ∃ m, m < n ∧ I m T H
  | e, T, H => Q e T H
theorem again_normal {n : Nat} {I : Nat → List AV → HS → Prop} (m : Nat) (hm : m < n) (h : I m T H) : Again n I Q .normal T H := ⟨m, hm, h⟩
theorem again_exit {n : Nat} {I : Nat → List AV → HS → Prop} {i : Nat} (h : Q (.exit i) T H) : Again n I Q (.exit i) T H := h
theorem again_ret {n : Nat} {I : Nat → List AV → HS → Prop} (h : Q .ret T H) : Again n I Q .ret T H := h
theorem aw_loop {k : Code} (I : Nat → List AV → HS → Prop) (n : Nat) (h0 : I n T H) (h : ∀ n T H, I n T H → AW P k (Again n I Q) T H) : AW P (.loop k) Q T H := by
  intro B w0 c0 c w a q0 q1 q2 q3
  refine wp_loop_ghost (fun n a w => ∃ c T H, Le c0 c ∧ Inv B w0 c H w ∧ RepT c a.tmps T ∧ a.defers = [] ∧ I n T H) n ⟨c, T, H, q0, q1, q2, q3, h0⟩ ?_
  rintro n a w ⟨c, T, H, x1, x2, x3, x4, x5⟩
  refine wp_mono (h n T H x5 B w0 c0 c w a x1 x2 x3 x4) ?_
  rintro e a' w' ⟨c', T', H', y1, y2, y3, y4, y5⟩
  cases e with
  | normal =>
    obtain ⟨m, hm, hI⟩ := y5
    exact ⟨m, hm, c', T', H', y1, y2, y3, y4, hI⟩
  | exit id => exact ⟨c', T', H', y1, y2, y3, y4, y5⟩
  | goto l => exact ⟨c', T', H', y1, y2, y3, y4, y5⟩
  | ret => exact ⟨c', T', H', y1, y2, y3, y4, y5⟩
  | panic ch => exact ⟨c', T', H', y1, y2, y3, y4, y5⟩
  | outgrown => exact ⟨c', T', H', y1, y2, y3, y4, y5⟩

/-! ### A region in the order of the text -/
theorem aw_region {id : Nat} {l : List Oper} (h : AL P l.toArray l Q T H) : AW P (.region id l.toArray false) Q T H :=
  fun B w0 c0 c w a h0 h1 h2 h3 => wp_region_lit (h B w0 c0 c w a h0 h1 h2 h3)
theorem al_nil {ops : Array Oper} (h : Q .normal T H) : AL P ops [] Q T H := fun _ _ _ c _ _ h0 h1 h2 h3 => wpList_nil ⟨c, T, H, h0, h1, h2, h3, h⟩
theorem put_defers (a : Act) (d : Option Tmp) (v : Value) : (a.put d v).defers = a.defers := by cases d <;> rfl
theorem al_cons {ops : Array Oper} {o : Oper} {l : List Oper} (R : AV → HS → Prop) (ho : OpR P o (evalT T) H R) (hg : o.guard = none) (h : ∀ v H', R v H' → AL P ops l Q (putT T o.dst v) H') : AL P ops (o :: l) Q T H := by
  intro B w0 c0 c w a h0 h1 h2 h3
  refine wpList_plain hg fun K hK => ?_
  refine ho B w0 c w a K _ h1 (fun x _ => h2.eval x) fun v' w' c' av H' l1 r1 i1 rr => ?_
  exact hK _ _ (h av H' rr B w0 c0 c' w' _ (h0.trans l1) i1 ((h2.mono l1).put o.dst r1) (by rw [put_defers]; exact h3))
/-- One value. -/
theorem al_step {ops : Array Oper} {o : Oper} {l : List Oper} {v : AV} {H' : HS} (ho : OpR P o (evalT T) H (Ret v H')) (hg : o.guard = none) (h : AL P ops l Q (putT T o.dst v) H') : AL P ops (o :: l) Q T H :=
  al_cons _ ho hg fun _ _ ⟨h1, h2⟩ => by subst h1; subst h2; exact h

theorem yielded_of {c : Ctx} {a : Act} {ops : Array Oper} (h2 : RepT c a.tmps T) {g d : Nat} {x : Bool} (hd : ((ops[g]?).bind (·.dst)) = some d) (hx : T[d]? = some (.d (.v (.bool x)))) : yielded ops a.tmps g = some x := by
  have hlt : d < T.length := (List.getElem?_eq_some_iff.1 hx).1
  have := h2.at_ d hlt
  rw [List.getD_eq_getElem?_getD, hx] at this
  have e := this.v_eq
  have hs : d < a.tmps.size := by rw [h2.size]; exact hlt
  simp [hs] at e
  unfold yielded
  rw [hd]
  simp [hs, e]
theorem al_wanted {ops : Array Oper} {o : Oper} {l : List Oper} {v : AV} {H' : HS} {g d : Nat} {x : Bool} (hg : o.guard = some (g, x)) (hd : ((ops[g]?).bind (·.dst)) = some d) (hx : T[d]? = some (.d (.v (.bool x))))
    (ho : OpR P o (evalT T) H (Ret v H')) (h : AL P ops l Q (putT T o.dst v) H') : AL P ops (o :: l) Q T H := by
  intro B w0 c0 c w a h0 h1 h2 h3
  unfold wpList
  rw [if_pos (by simp [Region.wanted, hg, yielded_of h2 hd hx])]
  refine .inl (ho B w0 c w a _ _ h1 (fun x _ => h2.eval x) ?_)
  rintro v' w' c' av H'' l1 r1 i1 ⟨rfl, rfl⟩
  exact h B w0 c0 c' w' _ (h0.trans l1) i1 ((h2.mono l1).put o.dst r1) (by rw [put_defers]; exact h3)
theorem al_unwanted {ops : Array Oper} {o : Oper} {l : List Oper} {g d : Nat} {x y : Bool} (hg : o.guard = some (g, y)) (hd : ((ops[g]?).bind (·.dst)) = some d) (hx : T[d]? = some (.d (.v (.bool x)))) (hne : (x == y) = false)
    (h : AL P ops l Q (putT T o.dst .nv) H) : AL P ops (o :: l) Q T H := by
  intro B w0 c0 c w a h0 h1 h2 h3
  unfold wpList
  rw [if_neg (by
    have : x ≠ y := by simpa using hne
    simp [Region.wanted, hg, yielded_of h2 hd hx, this])]
  exact h B w0 c0 c w _ h0 h1 (h2.put o.dst .nv) (by rw [put_defers]; exact h3)
theorem Rep.nv_eq {c : Ctx} {x : Value} (h : Rep c x .nv) : x = undef := by
  cases h with
  | nv => rfl
theorem yielded_nv {c : Ctx} {a : Act} {ops : Array Oper} (h2 : RepT c a.tmps T) {g d : Nat} (hd : ((ops[g]?).bind (·.dst)) = some d) (hx : T[d]? = some .nv) : yielded ops a.tmps g = none := by
  have hlt : d < T.length := (List.getElem?_eq_some_iff.1 hx).1
  have := h2.at_ d hlt
  rw [List.getD_eq_getElem?_getD, hx] at this
  have e := this.nv_eq
  have hs : d < a.tmps.size := by rw [h2.size]; exact hlt
  simp [hs] at e
  unfold yielded
  rw [hd]
  simp [hs, e, undef]
theorem al_unwanted0 {ops : Array Oper} {o : Oper} {l : List Oper} {g d : Nat} {y : Bool} (hg : o.guard = some (g, y)) (hd : ((ops[g]?).bind (·.dst)) = some d) (hx : T[d]? = some .nv)
    (h : AL P ops l Q (putT T o.dst .nv) H) : AL P ops (o :: l) Q T H := by
  intro B w0 c0 c w a h0 h1 h2 h3
  unfold wpList
  rw [if_neg (by simp [Region.wanted, hg, yielded_nv h2 hd hx])]
  exact h B w0 c0 c w _ h0 h1 (h2.put o.dst .nv) (by rw [put_defers]; exact h3)

/-! ### A function -/
def RetPost (rs : Array ResultVar) (R : AV → HS → Prop) : Post := fun e T H => (e = .ret ∨ e = .normal) ∧
  ∃ av, R av H ∧ ((∃ t, rs = #[.tmp t] ∧ T[t]? = some av) ∨ (∃ t u x y, rs = #[.tmp t, .tmp u] ∧ T[t]? = some x ∧ T[u]? = some y ∧ av = .tup [x, y]) ∨ (rs = #[] ∧ av = .tup []) ∨
    (∃ t u s x y z, rs = #[.tmp t, .tmp u, .tmp s] ∧ T[t]? = some x ∧ T[u]? = some y ∧ T[s]? = some z ∧ av = .tup [x, y, z]))
theorem retPost1 {rs : Array ResultVar} {R : AV → HS → Prop} {t : Tmp} {av : AV} (hr : rs = #[.tmp t]) (ht : T[t]? = some av) (h : R av H) : RetPost rs R .ret T H := ⟨.inl rfl, av, h, .inl ⟨t, hr, ht⟩⟩
theorem retPost2 {rs : Array ResultVar} {R : AV → HS → Prop} {t u : Tmp} {x y : AV} (hr : rs = #[.tmp t, .tmp u]) (ht : T[t]? = some x) (hu : T[u]? = some y) (h : R (.tup [x, y]) H) : RetPost rs R .ret T H :=
  ⟨.inl rfl, _, h, .inr (.inl ⟨t, u, x, y, hr, ht, hu, rfl⟩)⟩
theorem retPost3 {rs : Array ResultVar} {R : AV → HS → Prop} {t u s : Tmp} {x y z : AV} (hr : rs = #[.tmp t, .tmp u, .tmp s]) (ht : T[t]? = some x) (hu : T[u]? = some y) (hs : T[s]? = some z) (h : R (.tup [x, y, z]) H) : RetPost rs R .ret T H :=
  ⟨.inl rfl, _, h, .inr (.inr (.inr ⟨t, u, s, x, y, z, hr, ht, hu, hs, rfl⟩))⟩
theorem retPost0 {rs : Array ResultVar} {R : AV → HS → Prop} {e : Exit} (he : e = .ret ∨ e = .normal) (hr : rs = #[]) (h : R (.tup []) H) : RetPost rs R e T H := ⟨he, _, h, .inr (.inr (.inl ⟨hr, rfl⟩))⟩

theorem getD_of {c : Ctx} {tmps : Array Value} (h : RepT c tmps T) {t : Nat} {av : AV} (ht : T[t]? = some av) : Rep c (tmps.getD t undef) av := by
  have hlt : t < T.length := (List.getElem?_eq_some_iff.1 ht).1
  have := h.at_ t hlt
  rwa [List.getD_eq_getElem?_getD, ht] at this
theorem acalls_of_aw {f : FuncId} {fn : Func} {k : Code} {args : List AV} {R : AV → HS → Prop} (hf : P.funcs[f]? = some fn) (hb : fn.body = some k)
    (h : AW P k (RetPost fn.results R) (args ++ List.replicate (fn.ntmps - args.length) .un) H) : ACalls P f args H R := by
  intro B w0 c w vs hI hs ha
  refine calls_of_wp hf hb ?_
  have hT : RepT c (vs ++ Array.replicate (fn.ntmps - vs.size) undef) (args ++ List.replicate (fn.ntmps - args.length) .un) := by
    refine ⟨by simp [hs], fun i hi => ?_⟩
    by_cases hlt : i < args.length
    · have e1 : (vs ++ Array.replicate (fn.ntmps - vs.size) undef).getD i undef = vs.getD i undef := by
        have : i < vs.size := by omega
        have h2 : i < vs.size + (fn.ntmps - vs.size) := by omega
        simp [this, h2, Array.getElem_append_left this]
      have e2 : (args ++ List.replicate (fn.ntmps - args.length) AV.un).getD i .un = args[i] := by
        simp [List.getD_eq_getElem?_getD, List.getElem?_append_left hlt, hlt]
      rw [e1, e2]
      exact ha i hlt
    · have e2 : (args ++ List.replicate (fn.ntmps - args.length) AV.un).getD i .un = .un := by
        rw [List.getD_eq_getElem?_getD, List.getElem?_append_right (by omega), List.getElem?_replicate]
        split <;> rfl
      rw [e2]
      exact .un _
  refine wp_mono (h B w0 c c w _ (Le.refl c) hI hT rfl) ?_
  rintro e a' w' ⟨c', T', H', x1, x2, x3, x4, he, av, hR, hres⟩
  have key : ∃ v, (results fn a'.tmps).run P w' = .ok v w' ∧ Rep c' v av := by
    rcases hres with ⟨t, hr, ht⟩ | ⟨t, u, x, y, hr, ht, hu, rfl⟩ | ⟨hr, rfl⟩ | ⟨t, u, s, x, y, z, hr, ht, hu, hs', rfl⟩
    · exact ⟨_, results_tmp hr _ P w', getD_of x3 ht⟩
    · refine ⟨_, results_tmp2 hr _ P w', .tup _ _ rfl fun i hi => ?_⟩
      have hh1 := getD_of x3 ht
      have hh2 := getD_of x3 hu
      rcases i with _ | _ | i
      · exact hh1
      · exact hh2
      · simp at hi; omega
    · exact ⟨_, results_none hr _ P w', .tup _ _ rfl fun i hi => by simp at hi⟩
    · refine ⟨.tuple #[a'.tmps.getD t undef, a'.tmps.getD u undef, a'.tmps.getD s undef], by simp [results, hr], .tup _ _ rfl fun i hi => ?_⟩
      have hh1 := getD_of x3 ht
      have hh2 := getD_of x3 hu
      have hh3 := getD_of x3 hs'
      rcases i with _ | _ | _ | i
      · exact hh1
      · exact hh2
      · exact hh3
      · simp at hi; omega
  obtain ⟨v, hv, hrep⟩ := key
  rcases he with rfl | rfl
  · exact ⟨x4, v, hv, v, av, H', c', rfl, x1, hrep, x2, hR⟩
  · exact ⟨x4, v, hv, v, av, H', c', rfl, x1, hrep, x2, hR⟩
end

/-! ### What a call leaves behind is forgotten -/
def HS.cut (H : HS) (nb nt : Nat) : HS := { blks := H.blks.take nb, toks := H.toks.take nt }
def Ctx.cut (c : Ctx) (nb nt : Nat) : Ctx := { c with blk := c.blk.take nb, tok := c.tok.take nt }
/-- Does a value live without what is forgotten? -/
inductive Fits (nb nt : Nat) : AV → Prop
  | un : Fits nb nt .un
  | nv : Fits nb nt .nv
  | d (x : DV) : Fits nb nt (.d x)
  | own0 (sz : Nat) (xs : List DV) : Fits nb nt (.own none sz xs)
  | own (i sz : Nat) (xs : List DV) (h : i < nt) : Fits nb nt (.own (some i) sz xs)
  | elt (cs : List DV) : Fits nb nt (.elt cs)
  | ptr (id off : Nat) (h : id < nb) : Fits nb nt (.ptr id off)
  | arr (id n cap : Nat) (h : id < nb) : Fits nb nt (.arr id n cap)
  | sub (id off n cap : Nat) (h : id < nb) : Fits nb nt (.sub id off n cap)
  | agg (cs : List AV) (h : ∀ i (hi : i < cs.length), Fits nb nt cs[i]) : Fits nb nt (.agg cs)
  | tup (cs : List AV) (h : ∀ i (hi : i < cs.length), Fits nb nt cs[i]) : Fits nb nt (.tup cs)
  | fn (f : Fn) (fs cs : List AV) (h : ∀ i (hi : i < fs.length), Fits nb nt fs[i]) (h' : ∀ i (hi : i < cs.length), Fits nb nt cs[i]) : Fits nb nt (.fn f fs cs)
theorem Rep.cut {c : Ctx} {nb nt : Nat} {x : Value} {y : AV} (h : Rep c x y) (hf : Fits nb nt y) : Rep (c.cut nb nt) x y := by
  induction h with
  | un x => exact .un x
  | nv => exact .nv
  | d h => exact .d h
  | own0 sz => exact .own0 sz
  | own1 g o n sz xs h => exact .own1 g o n sz xs h
  | ownt i e g n cap sz xs h ht hn he =>
    cases hf with
    | own _ _ _ hi => exact .ownt i e g n cap sz xs h (by show (c.tok.take nt)[i]? = _; rw [List.getElem?_take, if_pos hi]; exact ht) hn he
  | elt g o cs us h1 hm h => exact .elt g o cs us h1 hm h
  | ptr id off g h =>
    cases hf with
    | ptr _ _ hi => exact .ptr id off g (by show (c.blk.take nb)[id]? = _; rw [List.getElem?_take, if_pos hi]; exact h)
  | arr id n cap g h =>
    cases hf with
    | arr _ _ _ hi => exact .arr id n cap g (by show (c.blk.take nb)[id]? = _; rw [List.getElem?_take, if_pos hi]; exact h)
  | sub id off n cap g h =>
    cases hf with
    | sub _ _ _ _ hi => exact .sub id off n cap g (by show (c.blk.take nb)[id]? = _; rw [List.getElem?_take, if_pos hi]; exact h)
  | agg vs cs hl _ ih =>
    cases hf with
    | agg _ h => exact .agg vs cs hl fun i hi => ih i hi (h i hi)
  | tup vs cs hl _ ih =>
    cases hf with
    | tup _ h => exact .tup vs cs hl fun i hi => ih i hi (h i hi)
  | fn f fs cs fs' cs' hl _ hl' _ ih ih' =>
    cases hf with
    | fn _ _ _ h h' => exact .fn f fs cs fs' cs' hl (fun i hi => ih i hi (h i hi)) hl' (fun i hi => ih' i hi (h' i hi))

theorem Inv.cut {B : Nat} {w0 w : World} {c : Ctx} {H : HS} (h : Inv B w0 c H w) (nb nt : Nat) (hf : ∀ i b, i < nb → H.blks[i]? = some b → ∀ j (hj : j < b.cs.length), Fits nb nt b.cs[j]) : Inv B w0 (c.cut nb nt) (H.cut nb nt) w := by
  have hb : ∀ (i g : Nat), (c.blk.take nb)[i]? = some g → i < nb ∧ c.blk[i]? = some g := by
    intro i g hi
    rw [List.getElem?_take] at hi
    split at hi
    · exact ⟨by assumption, hi⟩
    · cases hi
  have ht : ∀ (i : Nat) (e : Tok), (c.tok.take nt)[i]? = some e → i < nt ∧ c.tok[i]? = some e := by
    intro i g hi
    rw [List.getElem?_take] at hi
    split at hi
    · exact ⟨by assumption, hi⟩
    · cases hi
  refine ⟨h.base, h.below, h.mem, by simp [Ctx.cut, HS.cut, h.blkLen], fun i g b hg hbb => ?_, fun i j g hi hj => h.blkInj i j g (hb i g hi).2 (hb j g hj).2, by simp [Ctx.cut, HS.cut, h.tokLen], fun i e he => ?_, fun i j e e' hi hj => h.tokInj i j e e' (ht i e hi).2 (ht j e' hj).2⟩
  · obtain ⟨hlt, hg'⟩ := hb i g hg
    have hb' : H.blks[i]? = some b := by
      have : (H.blks.take nb)[i]? = some b := hbb
      rwa [List.getElem?_take, if_pos hlt] at this
    obtain ⟨q1, q2, cur, fr, q3, q4, q5, q6⟩ := h.blk i g b hg' hb'
    exact ⟨q1, q2, cur, fr, q3, q4, q5, fun j hj => (q6 j hj).cut (hf i b hlt hb' j hj)⟩
  · obtain ⟨hlt, he'⟩ := ht i e he
    obtain ⟨q1, q2, q3, q4, q5, q6⟩ := h.tok i e he'
    refine ⟨?_, q2, q3, q4, fun j hj => q5 j (hb j _ hj).2, q6⟩
    show (H.toks.take nt)[i]? = _
    rw [List.getElem?_take, if_pos hlt]
    exact q1

/-- Do all blocks that stay live without what is forgotten? -/
def HFits (nb nt : Nat) (H : HS) : Prop := ∀ i b, i < nb → H.blks[i]? = some b → ∀ j (hj : j < b.cs.length), Fits nb nt b.cs[j]
theorem ACalls.forget {P : Program} {f : FuncId} {args : List AV} {H : HS} {R : AV → HS → Prop} (nb nt : Nat) (hnb : H.blks.length ≤ nb) (hnt : H.toks.length ≤ nt)
    (h : ACalls P f args H fun av H' => Fits nb nt av ∧ HFits nb nt H' ∧ R av (H'.cut nb nt)) : ACalls P f args H R := by
  intro B w0 c w vs hI hs ha
  refine (h B w0 c w vs hI hs ha).mono ?_
  rintro e w' ⟨v, av, H', c', rfl, h1, h2, h3, h4, h5, h6⟩
  refine ⟨v, av, H'.cut nb nt, c'.cut nb nt, rfl, ⟨h1.mem, fun i g hi => ?_, fun i e he => ?_⟩, h2.cut h4, h3.cut nb nt h5, h6⟩
  · have : i < c.blk.length := (List.getElem?_eq_some_iff.1 hi).1
    show (c'.blk.take nb)[i]? = _
    rw [List.getElem?_take, if_pos (by have := hI.blkLen; omega)]
    exact h1.blk i g hi
  · have : i < c.tok.length := (List.getElem?_eq_some_iff.1 he).1
    obtain ⟨e', q1, q2⟩ := h1.tok i e he
    refine ⟨e', ?_, q2⟩
    show (c'.tok.take nt)[i]? = _
    rw [List.getElem?_take, if_pos (by have := hI.tokLen; omega)]
    exact q1

/-! ### A call -/
theorem op_call {P : Program} {E : Operand → AV} {H : HS} {R : AV → HS → Prop} {dst : Option Tmp} {fo : Operand} {args : Array Operand} {ts : Array TypeId} {ty : TypeId} {pos : String} {after : Array Edge} {gd : Option (Nat × Bool)}
    {f : FuncId} {fs cs : List AV} {fn : Func} (hE : E fo = .fn (.func f) fs cs) (hfn : P.funcs[f]? = some fn) (hname : (fn.name == "runtime.NumGoroutine") = false) (hbody : fn.body.isNone = false)
    (h : ACalls P f (fs ++ args.toList.map E ++ cs) H R) : OpR P ⟨dst, .call ⟨.value fo, args, ts⟩, ty, pos, after, gd⟩ E H R := by
  intro B w0 c w a next Q hI hops hnext
  have hf : Rep c (a.eval fo) (.fn (.func f) fs cs) := hE ▸ hops fo (by simp [Op.operands, Call.operands])
  cases hv : a.eval fo with
  | func fn' fv cv =>
    rw [hv] at hf
    cases hf with
    | fn _ _ _ _ _ hl h1 hl' h1' =>
    have hrun : (execOp a.eval ⟨dst, .call ⟨.value fo, args, ts⟩, ty, pos, after, gd⟩).run P w = .ok (.enter f (fv ++ args.map a.eval ++ cv)) w := by
      have hn : fn.name ≠ "runtime.NumGoroutine" := by simpa using hname
      have hb : ¬ fn.body = none := by intro hh; rw [hh] at hbody; cases hbody
      simp [execOp, resolve, hv, Deferred.ofValue, invoke, callFunc, program, Sem.run, hfn, hn, hb]
    unfold Oper.wp
    rw [hrun, Oper.upon_enter]
    refine (h B w0 c w _ hI (by simp [hl, hl']) ?_).mono ?_
    · intro i hi
      by_cases h2 : i < fv.size
      · have e1 : (fv ++ args.map a.eval ++ cv).getD i undef = fv.getD i undef := by
          rw [getD_left (by simp; omega), getD_left h2]
        have e2 : (fs ++ args.toList.map E ++ cs)[i] = fs[i]'(by omega) := by
          rw [List.getElem_append_left (by simp; omega), List.getElem_append_left]
        rw [e1, e2]
        exact h1 i (by omega)
      · by_cases h3 : i < fv.size + args.size
        · have hx : i - fv.size < args.size := by omega
          have e1 : (fv ++ args.map a.eval ++ cv).getD i undef = a.eval (args[i - fv.size]'hx) := by
            rw [getD_left (by simp; omega), getD_right (by omega)]
            simp [hx]
          have e2 : (fs ++ args.toList.map E ++ cs)[i] = E (args[i - fv.size]'hx) := by
            rw [List.getElem_append_left (by simp; omega), List.getElem_append_right (by omega)]
            simp only [List.getElem_map, Array.getElem_toList]
            congr 2
            omega
          rw [e1, e2]
          exact hops _ (by simp [Op.operands, Call.operands])
        · simp at hi
          have e1 : (fv ++ args.map a.eval ++ cv).getD i undef = cv.getD (i - (fv.size + args.size)) undef := by
            rw [getD_right (by simp; omega)]
            simp
          have h6 : i - (fv.size + args.size) < cs.length := by omega
          have e2 : (fs ++ args.toList.map E ++ cs)[i] = cs[i - (fv.size + args.size)]'h6 := by
            rw [List.getElem_append_right (by simp; omega)]
            congr 1
            simp
            omega
          rw [e1, e2]
          exact h1' _ h6
    · rintro e w' ⟨v, av, H', c', rfl, q1, q2, q3, q4⟩
      exact hnext v w' c' av H' q1 q2 q3 q4
  | _ =>
    rw [hv] at hf
    cases hf

end Go.AV
