/- Part 12 of what the law needs: Head, Top, ArgVal, ArgStp. -/
import Derived.Test.YtdiibbbbdhkepaaGreatDoorWs11
import Derived.KernelRfl
import Derived.Conc.Holds
import Derived.ChangeArms
set_option linter.unusedSectionVars false
set_option linter.unusedVariables false
set_option linter.unusedSimpArgs false
namespace Go.Proofs.YtdiibbbbdhkepaaGreatDoor.Hd
open Go Go.AV
set_option maxRecDepth 100000
variable [Wins Tryz.prog]
theorem sp : spine (fnb 5) = [hc 0, hc 1, hc 2, hc 3, hc 4, hc 5, hc 6, hc 7, hc 8, hc 9, hc 10] := by kernel_rfl
theorem fnb_eq : (Tryz.f5).body = some (fnb 5) := by kernel_rfl
theorem head_x : H11.x = x0 := rfl
theorem res_ok : resE (P := Tryz.prog) (Tryz.f5).results T11 H11 = some (.d (TF true)) := by kernel_rfl
theorem head_ok : ACalls Tryz.prog 5 [] H0 (fun av H' => av = .d (TF true) ∧ H'.x = x0) := by
  refine (bodyC (e := .ret) (T' := T11) (H' := H11) Tryz.func5 fnb_eq (.inl rfl) res_ok (aw_spine _ _ _ _ ?_)).mono fun av H' ⟨h1, h2⟩ => ⟨h1, by rw [h2]; exact head_x⟩
  rw [sp]
  have e0 : ([] : List AV) ++ List.replicate ((Tryz.f5).ntmps - ([] : List AV).length) .un = T0 := by rfl
  rw [e0]
  exact aws_step p0 (aws_step p1 (aws_step p2 (aws_step p3 (aws_step p4 (aws_step p5 (aws_step p6 (aws_step p7 (aws_step p8 (aws_step p9 (aws_last p10 ⟨rfl, rfl, rfl⟩))))))))))
end Go.Proofs.YtdiibbbbdhkepaaGreatDoor.Hd
namespace Go.AV
open Go.RowKit Go.Conc
abbrev goal (P : Program) (Post : Value → World → Prop) : Wins P where
  Wn m t := ∃ N last o w' t', runNT P (N + 1) m t = (.ended o w', t') ∧ runN P N m = .next last ∧ step P last = .ended o w' ∧ Go.Conc.Good P Post last o w' t'
  back := by
    rintro m m' t ops hs ⟨N, last, o, w', t', h1, h2, h3, h4⟩
    refine ⟨N + 1, last, o, w', t', ?_, ?_, h3, h4⟩
    · rw [runNT, hs]; exact h1
    · rw [runN, step, hs]; exact h2
theorem solo_x0 (g : Goroutine) (w : World) : x0.mach g w = solo g w := rfl
theorem stepG_end {P : Program} {f : FuncId} {fn : Func} {t : Tmp} {fr : Frame} {w : World} {v : Value} (hno : P.inits.idxOf? f = none) (hf : P.funcs[f]? = some fn) (hr : fn.results = #[.tmp t]) (h : Leaves P f .normal fr w v) :
    stepG P true (G fr []) w = .ended (.done v) w := by
  obtain ⟨h1, h2, h3, h4, h5, fn', h6, h7⟩ := h
  rw [hf] at h6
  cases h6
  have h8 : P.funcs[fr.fn]? = some fn := by rw [h1]; exact hf
  have hno' : P.inits.idxOf? fr.fn = none := by rw [h1]; exact hno
  have he : results fn fr.tmps = pure (fr.tmps.getD t undef) := by simp [results, hr]
  have hev : seen P fr.fn ((results fn fr.tmps).events P w #[]) = #[] := by rw [he]; rfl
  simp [G, stepG, unwind, doReturn, h2, h3, h4, h8, h7, hno', GStep.after, hev]
theorem law_leaves {P : Program} {f : FuncId} {fn : Func} {tr : Tmp} {args : Array Value} {avs : List AV} {W : World} {Post : Value → World → Prop} (hno : P.inits.idxOf? f = none) (hf : P.funcs[f]? = some fn) (hr : fn.results = #[.tmp tr])
    (hs : args.size = avs.length) (hrep : ∀ i (hi : i < avs.length), Rep (ctx0 W) (args.getD i undef) avs[i])
    (h : ∀ _ : Wins P, ACalls P f avs H0 fun av H' => av = .d (TF true) ∧ H'.x = x0) (hp : ∀ W', Below W.heap.size W W' → Post (.bool true) W') :
    ∃ N last o w' t', runNT P (N + 1) (solo (G (Frame.enter P f args .normal) []) W) #[] = (.ended o w', t') ∧ runN P N (solo (G (Frame.enter P f args .normal) []) W) = .next last ∧ step P last = .ended o w' ∧ Go.Conc.Good P Post last o w' t' := by
  letI : Wins P := goal P Post
  have key : Run P x0 W #[] (Frame.enter P f args .normal) [] := by
    refine h (goal P Post) W.heap.size W (ctx0 W) W #[] args (inv0 W) Bat.nil hs hrep .normal [] (.inl rfl) ?_
    rintro v w' c' av H' t' fr h1 h2 h3 h4 ⟨rfl, h5⟩ h6
    have hv := h2.v_eq
    subst hv
    have hx : c'.x = x0 := by rw [← h3.cx]; exact h5
    rw [hx]
    have h4' : Bat t' x0.me c'.mem (Live x0) := by rw [← hx]; exact h4
    have hL : ∀ l, ¬ Live x0 l := by
      rintro l ⟨g, q1, q2, q3⟩
      have : l < 1 := (Array.getElem?_eq_some_iff.1 q1).1
      simp only [x0] at q2
      omega
    have hst : stepT P (solo (G fr []) w') = (.ended (.done (.bool true)) w', #[]) := by
      rw [stepT_solo rfl]
      simp [runT, solo, Array.swapAt!, Array.swapAt, stepG_end hno hf hr h6, GStep.es, MemOp.ofEvents]
    show ∃ N last o w2 t2, _
    rw [solo_x0]
    refine ⟨0, _, .done (.bool true), w', t', ?_, rfl, by rw [step, hst], .bool true, rfl, hp w' h3.below, h4'.race, h4'.handedOver hL, ?_, ?_⟩
    · simp only [runNT, hst]
      simp
    · exact ⟨fun g hg => by simp [solo] at hg, rfl⟩
    · intro i g hi hne
      have : i < 1 := (Array.getElem?_eq_some_iff.1 hi).1
      omega
  exact key
end Go.AV
namespace Go.AV
open Go.RowKit Go.Conc
theorem returnsInLeaving_of_change {H : Type} {enc : TypeId × Value → H} {a : Assume} {C : Checked} {os : Os} {f : FuncId} {fn : Func} {s : ChangeSpec} {conds : List PathCond} {apart fresh handsOn again : Bool}
    (own : ownKnob C.prog.godebug = none) (started : os.Started) (hfn : C.prog.funcs[f]? = some fn)
    (witness : ∃ (w : World) (tape : Tape) (i : Input), w.os = os ∧ (w.forCall tape i).Shaped C.prog ∧ i.vars = [] ∧ Input.okWide C.prog (w.forCall tape i) .any w.heap.size f i ∧
      s.pre6 enc C.prog fn conds apart (w.forCall tape i).memory i.args ∧ a.holds C.prog (lone (Frame.enter C.prog f i.args .normal) [] (w.forCall tape i)))
    (contract : ∀ (W : World) (base : Nat) (args : Array Value) (ds gs : List (DataW H)) (before : List MemPlace),
      (∀ (j : Nat) t v, fn.params[j]? = some t → args[j]? = some v → Value.okWide C.prog W .any base t v) →
      DataW.Whole enc C.prog fn.params.toList s.vars apart W args.toList ds gs before →
      conds.all (PathCond.test C.prog ⟨fn.params.toList, ds, s.plain.varTypes C.prog, gs⟩) = true →
      a.holds C.prog (lone (Frame.enter C.prog f args .normal) [] W) →
      ∃ N last o w' t', runNT C.prog (N + 1) (solo (G (Frame.enter C.prog f args .normal) []) W) #[] = (.ended o w', t') ∧ runN C.prog N (solo (G (Frame.enter C.prog f args .normal) []) W) = .next last ∧ step C.prog last = .ended o w' ∧
        Go.Conc.Good C.prog (fun v W' => s.post enc C.prog fn apart fresh handsOn again W args v W') last o w' t') :
    ReturnsInLeavingWide a C os f .any (s.pre6 enc C.prog fn conds apart) (s.post enc C.prog fn apart fresh handsOn again) := by
  refine returnsInLeavingWide_of_good own started witness ?_
  intro w tape i _ _ _ hok hpre hholds
  obtain ⟨_, _, _, fn', hfn', _, _, _, _, hval⟩ := hok
  have e : fn' = fn := Option.some.inj (hfn'.symm.trans hfn)
  subst e
  obtain ⟨⟨ds, gs, before, hw, hc⟩, _⟩ := hpre
  have hw' := DataW.Whole.of_heap (w' := w.forCall tape i) (by rfl) hw
  obtain ⟨N, last, o, w', t', h1, h2, h3, v, h4, h5, h6⟩ := contract (w.forCall tape i) w.heap.size i.args ds gs before hval hw' hc hholds
  exact ⟨N, last, o, w', t', h1, h2, h3, v, h4, ChangeSpec.post_blind h5, h6⟩
end Go.AV
namespace Go.AV.Val
open Go.AV.Ord Go.AV.Oct
structure VTypes (P : Program) (tV tF tK tB tI tS tL tM : TypeId) : Prop where
  v : ∃ fs, P.underlying tV = some (.struct fs) ∧ (∃ f, fs[0]? = some f ∧ f.type = tK ∧ f.offset = 0) ∧ (∃ f, fs[1]? = some f ∧ f.type = tB ∧ f.offset = 1) ∧ (∃ f, fs[2]? = some f ∧ f.type = tI ∧ f.offset = 2) ∧ (∃ f, fs[3]? = some f ∧ f.type = tS ∧ f.offset = 3) ∧ (∃ f, fs[4]? = some f ∧ f.type = tL ∧ f.offset = 4) ∧ (∃ f, fs[5]? = some f ∧ f.type = tM ∧ f.offset = 5) ∧ fs.size = 6
  f : ∃ fs, P.underlying tF = some (.struct fs) ∧ (∃ f, fs[0]? = some f ∧ f.type = tS ∧ f.offset = 0) ∧ (∃ f, fs[1]? = some f ∧ f.type = tV ∧ f.offset = 1) ∧ fs.size = 2
  k : P.underlying tK = some (.int .i64)
  b : P.underlying tB = some .bool
  i : P.underlying tI = some (.int .i64)
  s : P.underlying tS = some .string
  l : P.underlying tL = some (.slice tV)
  m : P.underlying tM = some (.slice tF)
  cV : P.cellsOf tV = 6
  cF : P.cellsOf tF = 7
  cK : P.cellsOf tK = 1
  cB : P.cellsOf tB = 1
  cI : P.cellsOf tI = 1
  cS : P.cellsOf tS = 1
  cL : P.cellsOf tL = 1
  cM : P.cellsOf tM = 1
section
variable {H : Type} {enc : TypeId × Value → H} {P : Program} {W : World} {sp : Nat → Bool} {held : Bool} {tV tF tK tB tI tS tL tM : TypeId}
theorem all_map' {α : Type} {p : α → Prop} {f : α → DV} : ∀ {ys : List DV}, (∀ y ∈ ys, ∃ x, p x ∧ y = f x) → ∃ xs : List α, (∀ x ∈ xs, p x) ∧ ys = xs.map f
  | [], _ => ⟨[], fun _ h => (by cases h), rfl⟩
  | y :: ys, h => by
    obtain ⟨x, hp, rfl⟩ := h y (by simp)
    obtain ⟨xs, hps, rfl⟩ := all_map' (ys := ys) fun z hz => h z (by simp [hz])
    exact ⟨x :: xs, fun z hz => by rcases List.mem_cons.1 hz with rfl | hz; exact hp; exact hps z hz, rfl⟩
theorem list_cell {fuel : Nat} {t e : TypeId} {sz : Nat} (hsz0 : 0 < sz) (Good : DV → Prop) (ht : P.underlying t = some (.slice e)) (hsz : P.cellsOf e = sz) {c : Value} {x : DataW H × List MemPlace} (h : DataW.trod enc P W 0 sp held fuel t [c] = some x)
    (hel : ∀ m, m < fuel → ∀ cs d p, DataW.trod enc P W 0 sp held m e cs = some (d, p) → cs.length = sz → ∃ y, Go.AV.Reads W Good sz cs y) : ∃ ys, RepD (ctx0 W).mem c (.lst sz ys) ∧ (∀ y ∈ ys, Good y) := by
  cases fuel with
  | zero => simp [DataW.trod] at h
  | succ n =>
    rcases DataW.trod_slice ht h with ⟨h1, _⟩ | ⟨a, len, cap, _, _, m, h0, h1, _⟩
    · cases h1
      exact ⟨[], .lstE _ _ _, fun _ h => (by cases h)⟩
    · cases h1
      obtain ⟨d, p⟩ := x
      exact rep_slice hsz0 Good ht hsz (hel n (by omega)) h
theorem one_cell {Good : DV → Prop} {c : Value} {y : DV} (h : Go.AV.Reads W Good 1 [c] y) (e : y.cells = [y]) : RepD (ctx0 W).mem c y := by
  have := h.at_ 0 (by simp) (by rw [e]; simp)
  simpa [e] using this
theorem reads_both (T : VTypes P tV tF tK tB tI tS tL tM) : ∀ (N fuel : Nat), fuel ≤ N →
    (∀ (cs : List Value) d p, DataW.trod enc P W 0 sp held fuel tV cs = some (d, p) → cs.length = 6 → ∃ y, Go.AV.Reads W (fun y => ∃ v, WfV v ∧ y = vD v) 6 cs y) ∧
    (∀ (cs : List Value) d p, DataW.trod enc P W 0 sp held fuel tF cs = some (d, p) → cs.length = 7 → ∃ y, Go.AV.Reads W (fun y => ∃ f : F, WfV f.val ∧ y = fD f) 7 cs y)
  | 0, fuel, hf => by
    have : fuel = 0 := by omega
    subst this
    exact ⟨fun _ _ _ h => by simp [DataW.trod] at h, fun _ _ _ h => by simp [DataW.trod] at h⟩
  | N + 1, fuel, hf => by
    refine ⟨fun cs d p h hl => ?_, fun cs d p h hl => ?_⟩
    · obtain ⟨fs, hu, ⟨f0, g0, e0, o0⟩, ⟨f1, g1, e1, o1⟩, ⟨f2, g2, e2, o2⟩, ⟨f3, g3, e3, o3⟩, ⟨f4, g4, e4, o4⟩, ⟨f5, g5, e5, o5⟩, hsz⟩ := T.v
      obtain ⟨xs, n, hn, _, _, hxl, hx⟩ := DataW.trod_struct hu h
      subst hn
      obtain ⟨c0, c1, c2, c3, c4, c5, rfl⟩ : ∃ c0 c1 c2 c3 c4 c5, cs = [c0, c1, c2, c3, c4, c5] := by
        match cs, hl with
        | [c0, c1, c2, c3, c4, c5], _ => exact ⟨_, _, _, _, _, _, rfl⟩
      have get : ∀ i, i < 6 → ∃ x, xs[i]? = some x := fun i hi => ⟨_, List.getElem?_eq_getElem (by omega)⟩
      have q0 := hx 0 f0 g0
      have q1 := hx 1 f1 g1
      have q2 := hx 2 f2 g2
      have q3 := hx 3 f3 g3
      have q4 := hx 4 f4 g4
      have q5 := hx 5 f5 g5
      rw [e0, o0, T.cK] at q0
      rw [e1, o1, T.cB] at q1
      rw [e2, o2, T.cI] at q2
      rw [e3, o3, T.cS] at q3
      rw [e4, o4, T.cL] at q4
      rw [e5, o5, T.cM] at q5
      obtain ⟨⟨_, _⟩, x0⟩ := get 0 (by decide)
      obtain ⟨⟨_, _⟩, x1⟩ := get 1 (by decide)
      obtain ⟨⟨_, _⟩, x2⟩ := get 2 (by decide)
      obtain ⟨⟨_, _⟩, x3⟩ := get 3 (by decide)
      obtain ⟨⟨_, _⟩, x4⟩ := get 4 (by decide)
      obtain ⟨⟨_, _⟩, x5⟩ := get 5 (by decide)
      rw [x0] at q0; rw [x1] at q1; rw [x2] at q2; rw [x3] at q3; rw [x4] at q4; rw [x5] at q5
      obtain ⟨y0, r0⟩ := reads_int T.k q0
      obtain ⟨y1, r1⟩ := reads_bool T.b q1
      obtain ⟨y2, r2⟩ := reads_int T.i q2
      obtain ⟨y3, r3⟩ := reads_str T.s q3
      obtain ⟨k, rfl, wk⟩ := r0.good
      obtain ⟨b, rfl⟩ := r1.good
      obtain ⟨i, rfl, wi⟩ := r2.good
      obtain ⟨s, rfl⟩ := r3.good
      obtain ⟨ls', r4, l4⟩ := list_cell (by decide) _ T.l T.cV q4 fun m hm => (reads_both T N m (by omega)).1
      obtain ⟨fs', r5, l5⟩ := list_cell (by decide) _ T.m T.cF q5 fun m hm => (reads_both T N m (by omega)).2
      obtain ⟨ls, wl, rfl⟩ := all_map' l4
      obtain ⟨ffs, wf, rfl⟩ := all_map' l5
      refine ⟨vD (.mk k b i s ls ffs), rfl, by rw [vD_cells]; rfl, fun z hz => vC_one _ z hz, ⟨_, .mk _ _ _ _ _ _ (wf_i64 wk) (wf_i64 wi) wl wf, rfl⟩, fun j hj hj' => ?_⟩
      have ec : (vD (.mk k b i s ls ffs)).cells = [.v (.int .i64 k), TF b, .v (.int .i64 i), S s, .lst 6 (ls.map vD), .lst 7 (ffs.map fD)] := vD_cells _
      have p0 := one_cell r0 rfl
      have p1 := one_cell r1 rfl
      have p2 := one_cell r2 rfl
      have p3 := one_cell r3 rfl
      simp only [ec]
      match j, hj with
      | 0, _ => exact p0
      | 1, _ => exact p1
      | 2, _ => exact p2
      | 3, _ => exact p3
      | 4, _ => exact r4
      | 5, _ => exact r5
    · obtain ⟨fs, hu, ⟨f0, g0, e0, o0⟩, ⟨f1, g1, e1, o1⟩, hsz⟩ := T.f
      obtain ⟨xs, n, hn, _, _, hxl, hx⟩ := DataW.trod_struct hu h
      subst hn
      obtain ⟨c0, cs', rfl⟩ : ∃ c0 cs', cs = c0 :: cs' := List.exists_cons_of_ne_nil (by intro e; subst e; cases hl)
      have hl' : cs'.length = 6 := by simpa using hl
      have get : ∀ i, i < 2 → ∃ x, xs[i]? = some x := fun i hi => ⟨_, List.getElem?_eq_getElem (by omega)⟩
      have q0 := hx 0 f0 g0
      have q1 := hx 1 f1 g1
      rw [e0, o0, T.cS] at q0
      rw [e1, o1, T.cV, List.drop_succ_cons, List.drop_zero, List.take_of_length_le (by omega)] at q1
      obtain ⟨⟨_, _⟩, x0⟩ := get 0 (by decide)
      obtain ⟨⟨_, _⟩, x1⟩ := get 1 (by decide)
      rw [x0] at q0; rw [x1] at q1
      obtain ⟨y0, r0⟩ := reads_str T.s q0
      obtain ⟨s, rfl⟩ := r0.good
      obtain ⟨y1, r1⟩ := (reads_both T N n (by omega)).1 _ _ _ q1 hl'
      obtain ⟨v, wv, rfl⟩ := r1.good
      have p0 := one_cell r0 rfl
      have ec : (fD (.mk s v)).cells = S s :: (vD v).cells := fD_cells _
      refine ⟨fD (.mk s v), hl, by rw [ec, List.length_cons, r1.ylen], fun z hz => fC_one _ z hz, ⟨.mk s v, wv, rfl⟩, fun j hj hj' => ?_⟩
      simp only [ec]
      match j, hj with
      | 0, _ => exact p0
      | j + 1, hj => exact r1.at_ j (by simpa using hj) (by rw [ec] at hj'; simpa using hj')
end
end Go.AV.Val
namespace Go.AV.Val
open Go.AV.Ord Go.AV.Oct
section
variable {H : Type} {enc : TypeId × Value → H} {P : Program} {W : World} {sp : Nat → Bool} {held : Bool}
end
end Go.AV.Val
namespace Go.AV.Stp
open Go.AV.Ord Go.AV.Oct
structure STypes (P : Program) (tT tK tI tS tL : TypeId) : Prop where
  t : ∃ fs, P.underlying tT = some (.struct fs) ∧ (∃ f, fs[0]? = some f ∧ f.type = tK ∧ f.offset = 0) ∧ (∃ f, fs[1]? = some f ∧ f.type = tI ∧ f.offset = 1) ∧ (∃ f, fs[2]? = some f ∧ f.type = tI ∧ f.offset = 2) ∧ (∃ f, fs[3]? = some f ∧ f.type = tS ∧ f.offset = 3) ∧ (∃ f, fs[4]? = some f ∧ f.type = tL ∧ f.offset = 4) ∧ fs.size = 5
  k : P.underlying tK = some (.int .i64)
  i : P.underlying tI = some (.int .i64)
  s : P.underlying tS = some .string
  l : P.underlying tL = some (.slice tI)
  cT : P.cellsOf tT = 5
  cK : P.cellsOf tK = 1
  cI : P.cellsOf tI = 1
  cS : P.cellsOf tS = 1
  cL : P.cellsOf tL = 1
section
variable {H : Type} {enc : TypeId × Value → H} {P : Program} {W : World} {sp : Nat → Bool} {held : Bool} {tT tK tI tS tL tLT : TypeId}
theorem lst_len' {m : Nat → Nat → Option Value} {a : Option Addr} {n cap sz : Nat} {ys : List DV} (h : RepD m (.slice a n cap) (.lst sz ys)) : ys.length = n := by
  cases h with
  | lstE => rfl
  | lst => assumption
theorem reads_num {fuel : Nat} {t : TypeId} (ht : P.underlying t = some (.int .i64)) {cs : List Value} {d : DataW H} {p : List MemPlace} (h : DataW.trod enc P W 0 sp held fuel t cs = some (d, p)) : ∃ y, Go.AV.Reads W (fun y => ∃ n : Int, y = I n) 1 cs y := by
  obtain ⟨y, hy⟩ := reads_int ht h
  exact ⟨y, hy.imp fun ⟨n, e, _⟩ => ⟨n, e⟩⟩
theorem reads_step (T : STypes P tT tK tI tS tL) {fuel : Nat} {cs : List Value} {d : DataW H} {p : List MemPlace} (h : DataW.trod enc P W 0 sp held fuel tT cs = some (d, p)) (hl : cs.length = 5) :
    ∃ y, Go.AV.Reads W (fun y => ∃ x : St, x.keep.length ≤ 9223372036854775807 ∧ y = stD x) 5 cs y := by
  obtain ⟨fs, hu, ⟨f0, g0, e0, o0⟩, ⟨f1, g1, e1, o1⟩, ⟨f2, g2, e2, o2⟩, ⟨f3, g3, e3, o3⟩, ⟨f4, g4, e4, o4⟩, hsz⟩ := T.t
  obtain ⟨xs, n, hn, _, _, hxl, hx⟩ := DataW.trod_struct hu h
  subst hn
  obtain ⟨c0, c1, c2, c3, c4, rfl⟩ : ∃ c0 c1 c2 c3 c4, cs = [c0, c1, c2, c3, c4] := by
    match cs, hl with
    | [c0, c1, c2, c3, c4], _ => exact ⟨_, _, _, _, _, rfl⟩
  have get : ∀ i, i < 5 → ∃ x, xs[i]? = some x := fun i hi => ⟨_, List.getElem?_eq_getElem (by omega)⟩
  have q0 := hx 0 f0 g0
  have q1 := hx 1 f1 g1
  have q2 := hx 2 f2 g2
  have q3 := hx 3 f3 g3
  have q4 := hx 4 f4 g4
  rw [e0, o0, T.cK] at q0
  rw [e1, o1, T.cI] at q1
  rw [e2, o2, T.cI] at q2
  rw [e3, o3, T.cS] at q3
  rw [e4, o4, T.cL] at q4
  obtain ⟨⟨_, _⟩, x0⟩ := get 0 (by decide)
  obtain ⟨⟨_, _⟩, x1⟩ := get 1 (by decide)
  obtain ⟨⟨_, _⟩, x2⟩ := get 2 (by decide)
  obtain ⟨⟨_, _⟩, x3⟩ := get 3 (by decide)
  obtain ⟨⟨_, _⟩, x4⟩ := get 4 (by decide)
  rw [x0] at q0; rw [x1] at q1; rw [x2] at q2; rw [x3] at q3; rw [x4] at q4
  replace q0 : DataW.trod enc P W 0 sp held n tK [c0] = _ := q0
  replace q1 : DataW.trod enc P W 0 sp held n tI [c1] = _ := q1
  replace q2 : DataW.trod enc P W 0 sp held n tI [c2] = _ := q2
  replace q3 : DataW.trod enc P W 0 sp held n tS [c3] = _ := q3
  replace q4 : DataW.trod enc P W 0 sp held n tL [c4] = _ := q4
  obtain ⟨y0, r0⟩ := reads_num T.k q0
  obtain ⟨y1, r1⟩ := reads_num T.i q1
  obtain ⟨y2, r2⟩ := reads_num T.i q2
  obtain ⟨y3, r3⟩ := reads_str T.s q3
  obtain ⟨a0, rfl⟩ := r0.good
  obtain ⟨a1, rfl⟩ := r1.good
  obtain ⟨a2, rfl⟩ := r2.good
  obtain ⟨a3, rfl⟩ := r3.good
  obtain ⟨ys, r4, l4⟩ := Val.list_cell (by decide) (fun y => ∃ n : Int, y = I n) T.l T.cI q4 fun m hm cs d p h hl => reads_num T.i h
  have hcap : ys.length ≤ 9223372036854775807 := by
    rcases DataW.trod_slice T.l q4 with ⟨h1, _⟩ | ⟨ad, len, cap, _, _, m, h0, h1, _, _, h2, h3, _⟩
    · cases h1
      rw [lst_len' r4]; decide
    · cases h1
      rw [lst_len' r4]
      have : (maxLen : Nat) = 9223372036854775807 := by decide
      omega
  obtain ⟨l, _, rfl⟩ := Val.all_map' (p := fun _ : Int => True) (f := I) (ys := ys) fun y hy => (l4 y hy).imp fun x e => ⟨trivial, e⟩
  have p0 := Val.one_cell r0 rfl
  have p1 := Val.one_cell r1 rfl
  have p2 := Val.one_cell r2 rfl
  have p3 := Val.one_cell r3 rfl
  refine ⟨stD ⟨a0, a1, a2, a3, l⟩, rfl, rfl, fun z hz => ?_, ⟨⟨a0, a1, a2, a3, l⟩, by simpa using hcap, rfl⟩, fun i hi hi' => ?_⟩
  · have hz' : z ∈ stC ⟨a0, a1, a2, a3, l⟩ := hz
    simp only [stC, List.mem_cons, List.not_mem_nil, or_false] at hz'
    rcases hz' with rfl | rfl | rfl | rfl | rfl <;> rfl
  · match i, hi with
    | 0, _ => exact p0
    | 1, _ => exact p1
    | 2, _ => exact p2
    | 3, _ => exact p3
    | 4, _ => exact r4
theorem arg_steps (T : STypes P tT tK tI tS tL) (hLT : P.underlying tLT = some (.slice tT)) {r : Reach} {b0 : Nat} {v : Value} {d : DataW H} {ps : List MemPlace} (hval : Value.okWide P W r b0 tLT v) (hd : DataW.Trod enc P W 0 sp held tLT v d ps) :
    ∃ l : List St, l.length ≤ 9223372036854775807 ∧ (∀ x ∈ l, x.keep.length ≤ 9223372036854775807) ∧ Rep (ctx0 W) v (.d (.lst 5 (l.map stD))) := by
  have hd0 := hd
  obtain ⟨ys, h1, h2⟩ := arg_list (by decide) (fun y => ∃ x : St, x.keep.length ≤ 9223372036854775807 ∧ y = stD x) hLT T.cT hval hd fun fuel cs d p h hl => reads_step T h hl
  obtain ⟨l, h3, rfl⟩ := Val.all_map' h1
  refine ⟨l, ?_, h3, h2⟩
  obtain ⟨a, n, cap, rfl⟩ := WideShapes.okWide_slice hLT hval
  have hl := lst_len' h2.d_inv
  obtain ⟨fuel, hf⟩ := hd0
  have : n ≤ 9223372036854775807 := by
    cases fuel with
    | zero => cases hf
    | succ fuel =>
      rcases DataW.trod_slice hLT hf with ⟨h1, _⟩ | ⟨ad, len, cap, _, _, m, h0, h1, _, _, h2, h3, _⟩
      · simp only [Value.cells] at h1
        cases h1; decide
      · cases h1
        have : (maxLen : Nat) = 9223372036854775807 := by decide
        omega
  simp at hl
  omega
end
end Go.AV.Stp
