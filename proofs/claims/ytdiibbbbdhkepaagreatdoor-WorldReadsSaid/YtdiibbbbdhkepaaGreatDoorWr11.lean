/- Part 11 of what the law needs: Head, Top. -/
import Derived.Test.YtdiibbbbdhkepaaGreatDoorWr10
import Derived.KernelRfl
import Derived.Conc.Holds
set_option linter.unusedSectionVars false
set_option linter.unusedVariables false
set_option linter.unusedSimpArgs false
namespace Go.Proofs.YtdiibbbbdhkepaaGreatDoor.Hd
open Go Go.AV
set_option maxRecDepth 100000
variable [Wins Tryz.prog]
theorem sp : spine (fnb 5) = [hc 0, hc 1, hc 2, hc 3, hc 4, hc 5, hc 6, hc 7, hc 8, hc 9, hc 10] := by kernel_rfl
theorem fnb_eq : (Tryz.f5).body = some (fnb 5) := by kernel_rfl
theorem head_x : H11.x = x0 := rfl
theorem res_ok : resE (P := Tryz.prog) (Tryz.f5).results T11 H11 = some (.d (TF true)) := by kernel_rfl
theorem head_ok : ACalls Tryz.prog 5 [] H0 (fun av H' => av = .d (TF true) ∧ H'.x = x0) := by
  refine (bodyC (e := .ret) (T' := T11) (H' := H11) Tryz.func5 fnb_eq (.inl rfl) res_ok (aw_spine _ _ _ _ ?_)).mono fun av H' ⟨h1, h2⟩ => ⟨h1, by rw [h2]; exact head_x⟩
  rw [sp]
  have e0 : ([] : List AV) ++ List.replicate ((Tryz.f5).ntmps - ([] : List AV).length) .un = T0 := by rfl
  rw [e0]
  exact aws_step p0 (aws_step p1 (aws_step p2 (aws_step p3 (aws_step p4 (aws_step p5 (aws_step p6 (aws_step p7 (aws_step p8 (aws_step p9 (aws_last p10 ⟨rfl, rfl, rfl⟩))))))))))
end Go.Proofs.YtdiibbbbdhkepaaGreatDoor.Hd
namespace Go.AV
open Go.RowKit Go.Conc
abbrev goal (P : Program) (Post : Value → World → Prop) : Wins P where
  Wn m t := ∃ N last o w' t', runNT P (N + 1) m t = (.ended o w', t') ∧ runN P N m = .next last ∧ step P last = .ended o w' ∧ Go.Conc.Good P Post last o w' t'
  back := by
    rintro m m' t ops hs ⟨N, last, o, w', t', h1, h2, h3, h4⟩
    refine ⟨N + 1, last, o, w', t', ?_, ?_, h3, h4⟩
    · rw [runNT, hs]; exact h1
    · rw [runN, step, hs]; exact h2
theorem solo_x0 (g : Goroutine) (w : World) : x0.mach g w = solo g w := rfl
theorem stepG_end {P : Program} {f : FuncId} {fn : Func} {t : Tmp} {fr : Frame} {w : World} {v : Value} (hno : P.inits.idxOf? f = none) (hf : P.funcs[f]? = some fn) (hr : fn.results = #[.tmp t]) (h : Leaves P f .normal fr w v) :
    stepG P true (G fr []) w = .ended (.done v) w := by
  obtain ⟨h1, h2, h3, h4, h5, fn', h6, h7⟩ := h
  rw [hf] at h6
  cases h6
  have h8 : P.funcs[fr.fn]? = some fn := by rw [h1]; exact hf
  have hno' : P.inits.idxOf? fr.fn = none := by rw [h1]; exact hno
  have he : results fn fr.tmps = pure (fr.tmps.getD t undef) := by simp [results, hr]
  have hev : seen P fr.fn ((results fn fr.tmps).events P w #[]) = #[] := by rw [he]; rfl
  simp [G, stepG, unwind, doReturn, h2, h3, h4, h8, h7, hno', GStep.after, hev]
theorem law_leaves {P : Program} {f : FuncId} {fn : Func} {tr : Tmp} {args : Array Value} {avs : List AV} {W : World} {Post : Value → World → Prop} (hno : P.inits.idxOf? f = none) (hf : P.funcs[f]? = some fn) (hr : fn.results = #[.tmp tr])
    (hs : args.size = avs.length) (hrep : ∀ i (hi : i < avs.length), Rep (ctx0 W) (args.getD i undef) avs[i])
    (h : ∀ _ : Wins P, ACalls P f avs H0 fun av H' => av = .d (TF true) ∧ H'.x = x0) (hp : ∀ W', Below W.heap.size W W' → Post (.bool true) W') :
    ∃ N last o w' t', runNT P (N + 1) (solo (G (Frame.enter P f args .normal) []) W) #[] = (.ended o w', t') ∧ runN P N (solo (G (Frame.enter P f args .normal) []) W) = .next last ∧ step P last = .ended o w' ∧ Go.Conc.Good P Post last o w' t' := by
  letI : Wins P := goal P Post
  have key : Run P x0 W #[] (Frame.enter P f args .normal) [] := by
    refine h (goal P Post) W.heap.size W (ctx0 W) W #[] args (inv0 W) Bat.nil hs hrep .normal [] (.inl rfl) ?_
    rintro v w' c' av H' t' fr h1 h2 h3 h4 ⟨rfl, h5⟩ h6
    have hv := h2.v_eq
    subst hv
    have hx : c'.x = x0 := by rw [← h3.cx]; exact h5
    rw [hx]
    have h4' : Bat t' x0.me c'.mem (Live x0) := by rw [← hx]; exact h4
    have hL : ∀ l, ¬ Live x0 l := by
      rintro l ⟨g, q1, q2, q3⟩
      have : l < 1 := (Array.getElem?_eq_some_iff.1 q1).1
      simp only [x0] at q2
      omega
    have hst : stepT P (solo (G fr []) w') = (.ended (.done (.bool true)) w', #[]) := by
      rw [stepT_solo rfl]
      simp [runT, solo, Array.swapAt!, Array.swapAt, stepG_end hno hf hr h6, GStep.es, MemOp.ofEvents]
    show ∃ N last o w2 t2, _
    rw [solo_x0]
    refine ⟨0, _, .done (.bool true), w', t', ?_, rfl, by rw [step, hst], .bool true, rfl, hp w' h3.below, h4'.race, h4'.handedOver hL, ?_, ?_⟩
    · simp only [runNT, hst]
      simp
    · exact ⟨fun g hg => by simp [solo] at hg, rfl⟩
    · intro i g hi hne
      have : i < 1 := (Array.getElem?_eq_some_iff.1 hi).1
      omega
  exact key
end Go.AV
namespace Go.AV
open Go.RowKit Go.Conc
theorem returnsInLeaving_of_change {H : Type} {enc : TypeId × Value → H} {a : Assume} {C : Checked} {os : Os} {f : FuncId} {fn : Func} {s : ChangeSpec} {conds : List PathCond} {apart fresh handsOn again : Bool}
    (own : ownKnob C.prog.godebug = none) (started : os.Started) (hfn : C.prog.funcs[f]? = some fn)
    (witness : ∃ (w : World) (tape : Tape) (i : Input), w.os = os ∧ (w.forCall tape i).Shaped C.prog ∧ i.vars = [] ∧ Input.okWide C.prog (w.forCall tape i) .any w.heap.size f i ∧
      s.pre6 enc C.prog fn conds apart (w.forCall tape i).memory i.args ∧ a.holds C.prog (lone (Frame.enter C.prog f i.args .normal) [] (w.forCall tape i)))
    (contract : ∀ (W : World) (base : Nat) (args : Array Value) (ds gs : List (DataW H)) (before : List MemPlace),
      (∀ (j : Nat) t v, fn.params[j]? = some t → args[j]? = some v → Value.okWide C.prog W .any base t v) →
      DataW.Whole enc C.prog fn.params.toList s.vars apart W args.toList ds gs before →
      conds.all (PathCond.test C.prog ⟨fn.params.toList, ds, s.plain.varTypes C.prog, gs⟩) = true →
      a.holds C.prog (lone (Frame.enter C.prog f args .normal) [] W) →
      ∃ N last o w' t', runNT C.prog (N + 1) (solo (G (Frame.enter C.prog f args .normal) []) W) #[] = (.ended o w', t') ∧ runN C.prog N (solo (G (Frame.enter C.prog f args .normal) []) W) = .next last ∧ step C.prog last = .ended o w' ∧
        Go.Conc.Good C.prog (fun v W' => s.post enc C.prog fn apart fresh handsOn again W args v W') last o w' t') :
    ReturnsInLeavingWide a C os f .any (s.pre6 enc C.prog fn conds apart) (s.post enc C.prog fn apart fresh handsOn again) := by
  refine returnsInLeavingWide_of_good own started witness ?_
  intro w tape i _ _ _ hok hpre hholds
  obtain ⟨_, _, _, fn', hfn', _, _, _, _, hval⟩ := hok
  have e : fn' = fn := Option.some.inj (hfn'.symm.trans hfn)
  subst e
  obtain ⟨⟨ds, gs, before, hw, hc⟩, _⟩ := hpre
  have hw' := DataW.Whole.of_heap (w' := w.forCall tape i) (by rfl) hw
  obtain ⟨N, last, o, w', t', h1, h2, h3, v, h4, h5, h6⟩ := contract (w.forCall tape i) w.heap.size i.args ds gs before hval hw' hc hholds
  exact ⟨N, last, o, w', t', h1, h2, h3, v, h4, ChangeSpec.post_blind h5, h6⟩
end Go.AV
