/-
  Operations of layer 8 that come in as arguments.
-/
import Derived.Test.YtjamnhofbkgblaaPatchAV
import Derived.Test.YtjamnhofbkgblaaArgVal
namespace Go.AV.Patch
open Go.AV.Ord Go.AV.Oct Go.AV.Val
/-- The types that an operation is made of. -/
structure OTypes (P : Program) (tO tP tL tS tV tQ : TypeId) : Prop where
  o : ∃ fs, P.underlying tO = some (.struct fs) ∧ (∃ f, fs[0]? = some f ∧ f.type = tP ∧ f.offset = 0) ∧ (∃ f, fs[1]? = some f ∧ f.type = tL ∧ f.offset = 1) ∧ (∃ f, fs[2]? = some f ∧ f.type = tV ∧ f.offset = 2) ∧ fs.size = 3
  p : P.underlying tP = some (.int .i64)
  l : P.underlying tL = some (.slice tS)
  s : P.underlying tS = some .string
  q : P.underlying tQ = some (.slice tO)
  cO : P.cellsOf tO = 8
  cP : P.cellsOf tP = 1
  cL : P.cellsOf tL = 1
  cS : P.cellsOf tS = 1
theorem oC_eq (o : Opn) : oC o = I o.kind :: .lst 1 (o.path.map S) :: vC o.val := by rw [vC_eq]; rfl
section
variable {H : Type} {enc : TypeId × Value → H} {P : Program} {W : World} {sp : Nat → Bool} {held : Bool} {tV tF tK tB tI tS tL tM : TypeId} {tO tP tLs tSs tQ : TypeId}
theorem reads_op (T : VTypes P tV tF tK tB tI tS tL tM) (TO : OTypes P tO tP tLs tSs tV tQ) {fuel : Nat} {cs : List Value} {d : DataW H} {p : List MemPlace} (h : DataW.trod enc P W 0 sp held fuel tO cs = some (d, p)) (hl : cs.length = 8) : ∃ y, Go.AV.Reads W (fun y => ∃ o : Opn, WfV o.val ∧ y = oD o) 8 cs y := by
  obtain ⟨fs, hu, ⟨f0, g0, e0, o0⟩, ⟨f1, g1, e1, o1⟩, ⟨f2, g2, e2, o2⟩, hsz⟩ := TO.o
  obtain ⟨xs, n, hn, _, _, hxl, hx⟩ := DataW.trod_struct hu h
  subst hn
  obtain ⟨c0, c1, cs', rfl⟩ : ∃ c0 c1 cs', cs = c0 :: c1 :: cs' := by
    match cs, hl with
    | c0 :: c1 :: cs', _ => exact ⟨_, _, _, rfl⟩
  have hl' : cs'.length = 6 := by simpa using hl
  have get : ∀ i, i < 3 → ∃ x, xs[i]? = some x := fun i hi => ⟨_, List.getElem?_eq_getElem (by omega)⟩
  have q0 := hx 0 f0 g0
  have q1 := hx 1 f1 g1
  have q2 := hx 2 f2 g2
  rw [e0, o0, TO.cP] at q0
  rw [e1, o1, TO.cL] at q1
  rw [e2, o2, T.cV, List.drop_succ_cons, List.drop_succ_cons, List.drop_zero, List.take_of_length_le (by omega)] at q2
  obtain ⟨⟨_, _⟩, x0⟩ := get 0 (by decide)
  obtain ⟨⟨_, _⟩, x1⟩ := get 1 (by decide)
  obtain ⟨⟨_, _⟩, x2⟩ := get 2 (by decide)
  rw [x0] at q0; rw [x1] at q1; rw [x2] at q2
  obtain ⟨y0, r0⟩ := reads_int TO.p q0
  obtain ⟨k, rfl, wk⟩ := r0.good
  obtain ⟨ss', r1, l1⟩ := list_cell (by decide) (fun y => ∃ l : List UInt8, y = S l) TO.l TO.cS q1 fun m _ cs d p h _ => reads_str TO.s h
  obtain ⟨ss, rfl⟩ := all_map l1
  obtain ⟨y2, r2⟩ := (reads_both T n n (Nat.le_refl _)).1 _ _ _ q2 hl'
  obtain ⟨v, wv, rfl⟩ := r2.good
  have p0 := one_cell r0 rfl
  have ec : (oD ⟨k, ss, v⟩).cells = I k :: .lst 1 (ss.map S) :: (vD v).cells := oC_eq _
  refine ⟨oD ⟨k, ss, v⟩, hl, by rw [ec, List.length_cons, List.length_cons, r2.ylen], fun z hz => oC_one _ z hz, ⟨⟨k, ss, v⟩, wv, rfl⟩, fun j hj hj' => ?_⟩
  simp only [ec]
  match j, hj with
  | 0, _ => exact p0
  | 1, _ => exact r1
  | j + 2, hj => exact r2.at_ j (by simpa using hj) (by rw [ec] at hj'; simpa using hj')
theorem arg_op (T : VTypes P tV tF tK tB tI tS tL tM) (TO : OTypes P tO tP tLs tSs tV tQ) {r : Reach} {b0 : Nat} {v : Value} {d : DataW H} {ps : List MemPlace} (hval : Value.okWide P W r b0 tO v) (hd : DataW.Trod enc P W 0 sp held tO v d ps) : ∃ o : Opn, WfV o.val ∧ Rep (ctx0 W) v (.d (oD o)) := by
  obtain ⟨fs, hu, _⟩ := TO.o
  obtain ⟨cs, rfl, hs⟩ := WideShapes.okWide_struct hu hval
  rw [TO.cO] at hs
  obtain ⟨fuel, hf⟩ := hd
  have hl : (Value.agg cs).cells.toList.length = 8 := by simpa [Value.cells] using hs
  obtain ⟨y, hy⟩ := reads_op T TO hf hl
  obtain ⟨o, wo, rfl⟩ := hy.good
  refine ⟨o, wo, .d (.agg cs (oC o) (by rw [hs]; rfl) (oC_one o) fun i hi => ?_)⟩
  have hi8 : i < 8 := hi
  have := hy.at_ i (by rw [hl]; exact hi8) hi
  have e : cs.getD i undef = (Value.agg cs).cells.toList[i]'(by rw [hl]; exact hi8) := by
    simp [Value.cells, Array.getD, hs, hi8]
  rw [e]
  exact this
theorem lst_len {m : Nat → Nat → Option Value} {a : Option Addr} {n cap sz : Nat} {ys : List DV} (h : RepD m (.slice a n cap) (.lst sz ys)) : ys.length = n := by
  cases h with
  | lstE => rfl
  | lst => assumption
theorem arg_ops (T : VTypes P tV tF tK tB tI tS tL tM) (TO : OTypes P tO tP tLs tSs tV tQ) {r : Reach} {b0 : Nat} {v : Value} {d : DataW H} {ps : List MemPlace} (hval : Value.okWide P W r b0 tQ v) (hd : DataW.Trod enc P W 0 sp held tQ v d ps) :
    ∃ l : List Opn, (∀ o ∈ l, WfV o.val) ∧ l.length ≤ 9223372036854775807 ∧ Rep (ctx0 W) v (.d (.lst 8 (l.map oD))) := by
  obtain ⟨ys, h1, h2⟩ := arg_list (by decide) (fun y => ∃ o : Opn, WfV o.val ∧ y = oD o) TO.q TO.cO hval hd fun fuel cs d p h hl => reads_op T TO h hl
  obtain ⟨l, hl, rfl⟩ := all_map' h1
  refine ⟨l, hl, ?_, h2⟩
  obtain ⟨fuel, hf⟩ := hd
  cases h2 with
  | d h2 =>
    cases fuel with
    | zero => simp [DataW.trod] at hf
    | succ n =>
      have h3 := h2
      have hcl : ∀ c, v.cells.toList = [c] → v = c → l.length ≤ 9223372036854775807 := by
        intro c hc hv
        rw [hc] at hf
        rcases DataW.trod_slice TO.q hf with ⟨e, _⟩ | ⟨ad, len, cap, _, _, m, h0, e, _, _, q2, q3, _⟩
        · subst hv
          obtain rfl := List.head_eq_of_cons_eq e
          have := lst_len h3
          simp at this
          subst this; decide
        · subst hv
          obtain rfl := List.head_eq_of_cons_eq e
          have := lst_len h3
          simp at this
          have hmax : (maxLen : Nat) = 9223372036854775807 := by decide
          omega
      generalize l.map oD = m at h2
      cases h2 with
      | lst => exact hcl _ rfl rfl
      | lstE => exact hcl _ rfl rfl
end
end Go.AV.Patch
