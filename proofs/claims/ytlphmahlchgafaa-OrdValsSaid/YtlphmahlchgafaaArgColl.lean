/-
  A collection and an index of layer 13 that come in as arguments.
-/
import Derived.Test.YtlphmahlchgafaaSchPlain
import Derived.Test.YtlphmahlchgafaaArgVal
namespace Go.AV.Sch
open Go.AV.Ord Go.AV.Oct
/-- The types that a collection is made of. -/
structure CTypes (P : Program) (tC tX tS tB tL : TypeId) : Prop where
  c : ∃ fs, P.underlying tC = some (.struct fs) ∧ (∃ f, fs[0]? = some f ∧ f.type = tS ∧ f.offset = 0) ∧ (∃ f, fs[1]? = some f ∧ f.type = tL ∧ f.offset = 1) ∧ fs.size = 2
  x : ∃ fs, P.underlying tX = some (.struct fs) ∧ (∃ f, fs[0]? = some f ∧ f.type = tS ∧ f.offset = 0) ∧ (∃ f, fs[1]? = some f ∧ f.type = tS ∧ f.offset = 1) ∧ (∃ f, fs[2]? = some f ∧ f.type = tB ∧ f.offset = 2) ∧ fs.size = 3
  s : P.underlying tS = some .string
  b : P.underlying tB = some .bool
  l : P.underlying tL = some (.slice tX)
  cC : P.cellsOf tC = 2
  cX : P.cellsOf tX = 3
  cS : P.cellsOf tS = 1
  cB : P.cellsOf tB = 1
  cL : P.cellsOf tL = 1
section
variable {H : Type} {enc : TypeId × Value → H} {P : Program} {W : World} {sp : Nat → Bool} {held : Bool} {tC tX tS tB tL : TypeId}
theorem lst_len {m : Nat → Nat → Option Value} {a : Option Addr} {n cap sz : Nat} {ys : List DV} (h : RepD m (.slice a n cap) (.lst sz ys)) : ys.length = n := by
  cases h with
  | lstE => rfl
  | lst => assumption
theorem reads_ix (T : CTypes P tC tX tS tB tL) {fuel : Nat} {cs : List Value} {d : DataW H} {p : List MemPlace} (h : DataW.trod enc P W 0 sp held fuel tX cs = some (d, p)) (hl : cs.length = 3) : ∃ y, Go.AV.Reads W (fun y => ∃ x : Ix, y = ixD x) 3 cs y := by
  obtain ⟨fs, hu, ⟨f0, g0, e0, o0⟩, ⟨f1, g1, e1, o1⟩, ⟨f2, g2, e2, o2⟩, hsz⟩ := T.x
  obtain ⟨xs, n, hn, _, _, hxl, hx⟩ := DataW.trod_struct hu h
  subst hn
  obtain ⟨c0, c1, c2, rfl⟩ : ∃ c0 c1 c2, cs = [c0, c1, c2] := by
    match cs, hl with
    | [c0, c1, c2], _ => exact ⟨_, _, _, rfl⟩
  have get : ∀ i, i < 3 → ∃ x, xs[i]? = some x := fun i hi => ⟨_, List.getElem?_eq_getElem (by omega)⟩
  have q0 := hx 0 f0 g0
  have q1 := hx 1 f1 g1
  have q2 := hx 2 f2 g2
  rw [e0, o0, T.cS] at q0
  rw [e1, o1, T.cS] at q1
  rw [e2, o2, T.cB] at q2
  obtain ⟨⟨_, _⟩, x0⟩ := get 0 (by decide)
  obtain ⟨⟨_, _⟩, x1⟩ := get 1 (by decide)
  obtain ⟨⟨_, _⟩, x2⟩ := get 2 (by decide)
  rw [x0] at q0; rw [x1] at q1; rw [x2] at q2
  obtain ⟨y0, r0⟩ := reads_str T.s q0
  obtain ⟨y1, r1⟩ := reads_str T.s q1
  obtain ⟨y2, r2⟩ := reads_bool T.b q2
  obtain ⟨a, rfl⟩ := r0.good
  obtain ⟨b, rfl⟩ := r1.good
  obtain ⟨u, rfl⟩ := r2.good
  have p0 := Val.one_cell r0 rfl
  have p1 := Val.one_cell r1 rfl
  have p2 := Val.one_cell r2 rfl
  have ec : (ixD ⟨a, b, u⟩).cells = [S a, S b, TF u] := rfl
  refine ⟨ixD ⟨a, b, u⟩, rfl, by rw [ec]; rfl, fun z hz => ?_, ⟨_, rfl⟩, fun j hj hj' => ?_⟩
  · rw [ec] at hz
    simp only [List.mem_cons, List.not_mem_nil, or_false] at hz
    rcases hz with rfl | rfl | rfl <;> rfl
  · simp only [ec]
    match j, hj with
    | 0, _ => exact p0
    | 1, _ => exact p1
    | 2, _ => exact p2
theorem arg_ix (T : CTypes P tC tX tS tB tL) {r : Reach} {b0 : Nat} {v : Value} {d : DataW H} {ps : List MemPlace} (hval : Value.okWide P W r b0 tX v) (hd : DataW.Trod enc P W 0 sp held tX v d ps) : ∃ x : Ix, Rep (ctx0 W) v (.d (ixD x)) := by
  obtain ⟨fs, hu, _⟩ := T.x
  obtain ⟨cs, rfl, hs⟩ := WideShapes.okWide_struct hu hval
  rw [T.cX] at hs
  obtain ⟨fuel, hf⟩ := hd
  have hl : (Value.agg cs).cells.toList.length = 3 := by simpa [Value.cells] using hs
  obtain ⟨y, hy⟩ := reads_ix T hf hl
  obtain ⟨x, rfl⟩ := hy.good
  refine ⟨x, .d (.agg cs (ixC x) (by rw [hs]; rfl) (fun z hz => hy.one z hz) fun i hi => ?_)⟩
  have hi6 : i < 3 := hi
  have := hy.at_ i (by rw [hl]; exact hi6) hi
  have e : cs.getD i undef = (Value.agg cs).cells.toList[i]'(by rw [hl]; exact hi6) := by
    simp [Value.cells, Array.getD, hs, hi6]
  rw [e]
  exact this
theorem arg_coll (T : CTypes P tC tX tS tB tL) {r : Reach} {b0 : Nat} {v : Value} {d : DataW H} {ps : List MemPlace} (hval : Value.okWide P W r b0 tC v) (hd : DataW.Trod enc P W 0 sp held tC v d ps) :
    ∃ (name : List UInt8) (xs : List Ix), xs.length ≤ 9223372036854775807 ∧ Rep (ctx0 W) v (.d (.agg [S name, .lst 3 (xs.map ixD)])) := by
  obtain ⟨fs, hu, ⟨f0, g0, e0, o0⟩, ⟨f1, g1, e1, o1⟩, hsz⟩ := T.c
  obtain ⟨cs, rfl, hs⟩ := WideShapes.okWide_struct hu hval
  rw [T.cC] at hs
  obtain ⟨fuel, hf⟩ := hd
  obtain ⟨xs, n, hn, _, _, hxl, hx⟩ := DataW.trod_struct hu hf
  subst hn
  obtain ⟨c0, c1, rfl⟩ : ∃ c0 c1, cs = #[c0, c1] := by
    obtain ⟨l⟩ := cs
    match l, hs with
    | [c0, c1], _ => exact ⟨_, _, rfl⟩
  have get : ∀ i, i < 2 → ∃ x, xs[i]? = some x := fun i hi => ⟨_, List.getElem?_eq_getElem (by omega)⟩
  have q0 := hx 0 f0 g0
  have q1 := hx 1 f1 g1
  rw [e0, o0, T.cS] at q0
  rw [e1, o1, T.cL] at q1
  obtain ⟨⟨_, _⟩, x0⟩ := get 0 (by decide)
  obtain ⟨⟨_, _⟩, x1⟩ := get 1 (by decide)
  rw [x0] at q0; rw [x1] at q1
  replace q0 : DataW.trod enc P W 0 sp held n tS [c0] = _ := q0
  replace q1 : DataW.trod enc P W 0 sp held n tL [c1] = _ := q1
  obtain ⟨y0, r0⟩ := reads_str T.s q0
  obtain ⟨a, rfl⟩ := r0.good
  obtain ⟨ys, r1, l1⟩ := Val.list_cell (by decide) (fun y => ∃ x : Ix, y = ixD x) T.l T.cX q1 fun m hm cs d p h hl => reads_ix T h hl
  have hcap : ys.length ≤ 9223372036854775807 := by
    rcases DataW.trod_slice T.l q1 with ⟨h1, _⟩ | ⟨ad, len, cap, _, _, m, h0, h1, _, _, h2, h3, _⟩
    · cases h1
      rw [lst_len r1]; decide
    · cases h1
      rw [lst_len r1]
      have : (maxLen : Nat) = 9223372036854775807 := by decide
      omega
  obtain ⟨l, _, rfl⟩ := Val.all_map' (p := fun _ : Ix => True) (f := ixD) (ys := ys) fun y hy => (l1 y hy).imp fun x e => ⟨trivial, e⟩
  have p0 := Val.one_cell r0 rfl
  refine ⟨a, l, by simpa using hcap, .d (.agg _ [S a, .lst 3 (l.map ixD)] rfl (fun z hz => ?_) fun i hi => ?_)⟩
  · simp only [List.mem_cons, List.not_mem_nil, or_false] at hz
    rcases hz with rfl | rfl <;> rfl
  · match i, hi with
    | 0, _ => exact p0
    | 1, _ => exact r1
end
end Go.AV.Sch
