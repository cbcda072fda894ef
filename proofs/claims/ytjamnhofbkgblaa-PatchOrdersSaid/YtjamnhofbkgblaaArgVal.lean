/-
  A value of layer 2 that comes in as an argument.
-/
import Derived.Test.YtjamnhofbkgblaaValFew
import Derived.Test.YtjamnhofbkgblaaA10
import Derived.ChangeArms
namespace Go.AV.Val
open Go.AV.Ord Go.AV.Oct
/-- The types that a value is made of. -/
structure VTypes (P : Program) (tV tF tK tB tI tS tL tM : TypeId) : Prop where
  v : ∃ fs, P.underlying tV = some (.struct fs) ∧ (∃ f, fs[0]? = some f ∧ f.type = tK ∧ f.offset = 0) ∧ (∃ f, fs[1]? = some f ∧ f.type = tB ∧ f.offset = 1) ∧ (∃ f, fs[2]? = some f ∧ f.type = tI ∧ f.offset = 2) ∧ (∃ f, fs[3]? = some f ∧ f.type = tS ∧ f.offset = 3) ∧ (∃ f, fs[4]? = some f ∧ f.type = tL ∧ f.offset = 4) ∧ (∃ f, fs[5]? = some f ∧ f.type = tM ∧ f.offset = 5) ∧ fs.size = 6
  f : ∃ fs, P.underlying tF = some (.struct fs) ∧ (∃ f, fs[0]? = some f ∧ f.type = tS ∧ f.offset = 0) ∧ (∃ f, fs[1]? = some f ∧ f.type = tV ∧ f.offset = 1) ∧ fs.size = 2
  k : P.underlying tK = some (.int .i64)
  b : P.underlying tB = some .bool
  i : P.underlying tI = some (.int .i64)
  s : P.underlying tS = some .string
  l : P.underlying tL = some (.slice tV)
  m : P.underlying tM = some (.slice tF)
  cV : P.cellsOf tV = 6
  cF : P.cellsOf tF = 7
  cK : P.cellsOf tK = 1
  cB : P.cellsOf tB = 1
  cI : P.cellsOf tI = 1
  cS : P.cellsOf tS = 1
  cL : P.cellsOf tL = 1
  cM : P.cellsOf tM = 1
section
variable {H : Type} {enc : TypeId × Value → H} {P : Program} {W : World} {sp : Nat → Bool} {held : Bool} {tV tF tK tB tI tS tL tM : TypeId}
theorem all_map' {α : Type} {p : α → Prop} {f : α → DV} : ∀ {ys : List DV}, (∀ y ∈ ys, ∃ x, p x ∧ y = f x) → ∃ xs : List α, (∀ x ∈ xs, p x) ∧ ys = xs.map f
  | [], _ => ⟨[], fun _ h => (by cases h), rfl⟩
  | y :: ys, h => by
    obtain ⟨x, hp, rfl⟩ := h y (by simp)
    obtain ⟨xs, hps, rfl⟩ := all_map' (ys := ys) fun z hz => h z (by simp [hz])
    exact ⟨x :: xs, fun z hz => by rcases List.mem_cons.1 hz with rfl | hz; exact hp; exact hps z hz, rfl⟩
/-- A list among other values. -/
theorem list_cell {fuel : Nat} {t e : TypeId} {sz : Nat} (hsz0 : 0 < sz) (Good : DV → Prop) (ht : P.underlying t = some (.slice e)) (hsz : P.cellsOf e = sz) {c : Value} {x : DataW H × List MemPlace} (h : DataW.trod enc P W 0 sp held fuel t [c] = some x)
    (hel : ∀ m, m < fuel → ∀ cs d p, DataW.trod enc P W 0 sp held m e cs = some (d, p) → cs.length = sz → ∃ y, Go.AV.Reads W Good sz cs y) : ∃ ys, RepD (ctx0 W).mem c (.lst sz ys) ∧ (∀ y ∈ ys, Good y) := by
  cases fuel with
  | zero => simp [DataW.trod] at h
  | succ n =>
    rcases DataW.trod_slice ht h with ⟨h1, _⟩ | ⟨a, len, cap, _, _, m, h0, h1, _⟩
    · cases h1
      exact ⟨[], .lstE _ _ _, fun _ h => (by cases h)⟩
    · cases h1
      obtain ⟨d, p⟩ := x
      exact rep_slice hsz0 Good ht hsz (hel n (by omega)) h
theorem one_cell {Good : DV → Prop} {c : Value} {y : DV} (h : Go.AV.Reads W Good 1 [c] y) (e : y.cells = [y]) : RepD (ctx0 W).mem c y := by
  have := h.at_ 0 (by simp) (by rw [e]; simp)
  simpa [e] using this
theorem reads_both (T : VTypes P tV tF tK tB tI tS tL tM) : ∀ (N fuel : Nat), fuel ≤ N →
    (∀ (cs : List Value) d p, DataW.trod enc P W 0 sp held fuel tV cs = some (d, p) → cs.length = 6 → ∃ y, Go.AV.Reads W (fun y => ∃ v, WfV v ∧ y = vD v) 6 cs y) ∧
    (∀ (cs : List Value) d p, DataW.trod enc P W 0 sp held fuel tF cs = some (d, p) → cs.length = 7 → ∃ y, Go.AV.Reads W (fun y => ∃ f : F, WfV f.val ∧ y = fD f) 7 cs y)
  | 0, fuel, hf => by
    have : fuel = 0 := by omega
    subst this
    exact ⟨fun _ _ _ h => by simp [DataW.trod] at h, fun _ _ _ h => by simp [DataW.trod] at h⟩
  | N + 1, fuel, hf => by
    refine ⟨fun cs d p h hl => ?_, fun cs d p h hl => ?_⟩
    · obtain ⟨fs, hu, ⟨f0, g0, e0, o0⟩, ⟨f1, g1, e1, o1⟩, ⟨f2, g2, e2, o2⟩, ⟨f3, g3, e3, o3⟩, ⟨f4, g4, e4, o4⟩, ⟨f5, g5, e5, o5⟩, hsz⟩ := T.v
      obtain ⟨xs, n, hn, _, _, hxl, hx⟩ := DataW.trod_struct hu h
      subst hn
      obtain ⟨c0, c1, c2, c3, c4, c5, rfl⟩ : ∃ c0 c1 c2 c3 c4 c5, cs = [c0, c1, c2, c3, c4, c5] := by
        match cs, hl with
        | [c0, c1, c2, c3, c4, c5], _ => exact ⟨_, _, _, _, _, _, rfl⟩
      have get : ∀ i, i < 6 → ∃ x, xs[i]? = some x := fun i hi => ⟨_, List.getElem?_eq_getElem (by omega)⟩
      have q0 := hx 0 f0 g0
      have q1 := hx 1 f1 g1
      have q2 := hx 2 f2 g2
      have q3 := hx 3 f3 g3
      have q4 := hx 4 f4 g4
      have q5 := hx 5 f5 g5
      rw [e0, o0, T.cK] at q0
      rw [e1, o1, T.cB] at q1
      rw [e2, o2, T.cI] at q2
      rw [e3, o3, T.cS] at q3
      rw [e4, o4, T.cL] at q4
      rw [e5, o5, T.cM] at q5
      obtain ⟨⟨_, _⟩, x0⟩ := get 0 (by decide)
      obtain ⟨⟨_, _⟩, x1⟩ := get 1 (by decide)
      obtain ⟨⟨_, _⟩, x2⟩ := get 2 (by decide)
      obtain ⟨⟨_, _⟩, x3⟩ := get 3 (by decide)
      obtain ⟨⟨_, _⟩, x4⟩ := get 4 (by decide)
      obtain ⟨⟨_, _⟩, x5⟩ := get 5 (by decide)
      rw [x0] at q0; rw [x1] at q1; rw [x2] at q2; rw [x3] at q3; rw [x4] at q4; rw [x5] at q5
      obtain ⟨y0, r0⟩ := reads_int T.k q0
      obtain ⟨y1, r1⟩ := reads_bool T.b q1
      obtain ⟨y2, r2⟩ := reads_int T.i q2
      obtain ⟨y3, r3⟩ := reads_str T.s q3
      obtain ⟨k, rfl, wk⟩ := r0.good
      obtain ⟨b, rfl⟩ := r1.good
      obtain ⟨i, rfl, wi⟩ := r2.good
      obtain ⟨s, rfl⟩ := r3.good
      obtain ⟨ls', r4, l4⟩ := list_cell (by decide) _ T.l T.cV q4 fun m hm => (reads_both T N m (by omega)).1
      obtain ⟨fs', r5, l5⟩ := list_cell (by decide) _ T.m T.cF q5 fun m hm => (reads_both T N m (by omega)).2
      obtain ⟨ls, wl, rfl⟩ := all_map' l4
      obtain ⟨ffs, wf, rfl⟩ := all_map' l5
      refine ⟨vD (.mk k b i s ls ffs), rfl, by rw [vD_cells]; rfl, fun z hz => vC_one _ z hz, ⟨_, .mk _ _ _ _ _ _ (wf_i64 wk) (wf_i64 wi) wl wf, rfl⟩, fun j hj hj' => ?_⟩
      have ec : (vD (.mk k b i s ls ffs)).cells = [.v (.int .i64 k), TF b, .v (.int .i64 i), S s, .lst 6 (ls.map vD), .lst 7 (ffs.map fD)] := vD_cells _
      have p0 := one_cell r0 rfl
      have p1 := one_cell r1 rfl
      have p2 := one_cell r2 rfl
      have p3 := one_cell r3 rfl
      simp only [ec]
      match j, hj with
      | 0, _ => exact p0
      | 1, _ => exact p1
      | 2, _ => exact p2
      | 3, _ => exact p3
      | 4, _ => exact r4
      | 5, _ => exact r5
    · obtain ⟨fs, hu, ⟨f0, g0, e0, o0⟩, ⟨f1, g1, e1, o1⟩, hsz⟩ := T.f
      obtain ⟨xs, n, hn, _, _, hxl, hx⟩ := DataW.trod_struct hu h
      subst hn
      obtain ⟨c0, cs', rfl⟩ : ∃ c0 cs', cs = c0 :: cs' := List.exists_cons_of_ne_nil (by intro e; subst e; cases hl)
      have hl' : cs'.length = 6 := by simpa using hl
      have get : ∀ i, i < 2 → ∃ x, xs[i]? = some x := fun i hi => ⟨_, List.getElem?_eq_getElem (by omega)⟩
      have q0 := hx 0 f0 g0
      have q1 := hx 1 f1 g1
      rw [e0, o0, T.cS] at q0
      rw [e1, o1, T.cV, List.drop_succ_cons, List.drop_zero, List.take_of_length_le (by omega)] at q1
      obtain ⟨⟨_, _⟩, x0⟩ := get 0 (by decide)
      obtain ⟨⟨_, _⟩, x1⟩ := get 1 (by decide)
      rw [x0] at q0; rw [x1] at q1
      obtain ⟨y0, r0⟩ := reads_str T.s q0
      obtain ⟨s, rfl⟩ := r0.good
      obtain ⟨y1, r1⟩ := (reads_both T N n (by omega)).1 _ _ _ q1 hl'
      obtain ⟨v, wv, rfl⟩ := r1.good
      have p0 := one_cell r0 rfl
      have ec : (fD (.mk s v)).cells = S s :: (vD v).cells := fD_cells _
      refine ⟨fD (.mk s v), hl, by rw [ec, List.length_cons, r1.ylen], fun z hz => fC_one _ z hz, ⟨.mk s v, wv, rfl⟩, fun j hj hj' => ?_⟩
      simp only [ec]
      match j, hj with
      | 0, _ => exact p0
      | j + 1, hj => exact r1.at_ j (by simpa using hj) (by rw [ec] at hj'; simpa using hj')
theorem arg_val (T : VTypes P tV tF tK tB tI tS tL tM) {r : Reach} {b0 : Nat} {v : Value} {d : DataW H} {ps : List MemPlace} (hval : Value.okWide P W r b0 tV v) (hd : DataW.Trod enc P W 0 sp held tV v d ps) : ∃ x : V, WfV x ∧ Rep (ctx0 W) v (.d (.agg (vC x))) := by
  obtain ⟨fs, hu, _⟩ := T.v
  obtain ⟨cs, rfl, hs⟩ := WideShapes.okWide_struct hu hval
  rw [T.cV] at hs
  obtain ⟨fuel, hf⟩ := hd
  have hl : (Value.agg cs).cells.toList.length = 6 := by simpa [Value.cells] using hs
  obtain ⟨y, hy⟩ := (reads_both T fuel fuel (Nat.le_refl _)).1 _ _ _ hf hl
  obtain ⟨x, wx, rfl⟩ := hy.good
  refine ⟨x, wx, .d (.agg cs (vC x) (by rw [hs, vC_len]) (vC_one x) fun i hi => ?_)⟩
  have hi6 : i < 6 := by rw [vC_len] at hi; exact hi
  have := hy.at_ i (by rw [hl]; exact hi6) hi
  have e : cs.getD i undef = (Value.agg cs).cells.toList[i]'(by rw [hl]; exact hi6) := by
    simp [Value.cells, Array.getD, hs, hi6]
  rw [e]
  exact this
end
end Go.AV.Val
namespace Go.AV.Val
open Go.AV.Ord Go.AV.Oct
section
variable {H : Type} {enc : TypeId × Value → H} {P : Program} {W : World} {sp : Nat → Bool} {held : Bool}
theorem arg_ints {t e : TypeId} {r : Reach} {b0 : Nat} {v : Value} {d : DataW H} {ps : List MemPlace} (ht : P.underlying t = some (.slice e)) (he : P.underlying e = some (.int .i64)) (hsz : P.cellsOf e = 1) (hval : Value.okWide P W r b0 t v) (hd : DataW.Trod enc P W 0 sp held t v d ps) : ∃ l : List Int, (∀ n ∈ l, i64 n) ∧ Rep (ctx0 W) v (.d (.lst 1 (l.map I))) := by
  obtain ⟨ys, h1, h2⟩ := arg_list (by decide) (fun y => ∃ n : Int, i64 n ∧ y = I n) ht hsz hval hd fun fuel cs d p h _ => by
    obtain ⟨y, hy⟩ := reads_int he h
    exact ⟨y, hy.imp fun ⟨n, e1, e2⟩ => ⟨n, wf_i64 e2, e1⟩⟩
  obtain ⟨l, hl, rfl⟩ := all_map' h1
  exact ⟨l, hl, h2⟩
end
end Go.AV.Val
