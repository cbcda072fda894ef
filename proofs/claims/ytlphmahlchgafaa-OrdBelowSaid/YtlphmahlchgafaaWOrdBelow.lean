/- What the law OrdBelow comes to. -/
import Derived.Test.YtlphmahlchgafaaOrdW
import Derived.Test.YtlphmahlchgafaaOrdPlain3
import Derived.Test.YtlphmahlchgafaaA11
import Derived.KernelRfl
namespace Go.Proofs.Ytlphmahlchgafaa
open Go.AV Go.AV.Ord
set_option linter.unusedVariables false
set_option linter.unusedSimpArgs false
set_option maxRecDepth 100000 in
theorem ordBelow_walk (Hs : HS) (a b : List (List UInt8)) : ACalls Try.prog 6 [.d (.lst 1 (a.map S)), .d (.lst 1 (b.map S))] Hs (fun av _ => av = .d (TF true)) := by
  refine acalls_of_aw Try.func6 rfl ?_
  refine aw_start (T' := ((.d (.lst 1 (a.map S))) :: (.d (.lst 1 (b.map S))) :: .un :: .un :: .un :: .un :: .un :: .un :: .un :: .un :: .un :: .un :: .un :: .un :: .un :: .un :: .un :: .un :: .un :: .un :: .un :: .un :: .un :: .un :: .un :: .un :: .un :: .un :: .un :: .un :: .un :: .un :: .un :: .un :: .un :: .un :: .un :: .un :: .un :: .un :: .un :: .un :: .un :: .un :: .un :: .un :: .un :: .un :: .un :: .un :: .un :: .un :: .un :: .un :: .un :: .un :: .un :: .un :: .un :: .un :: .un :: .un :: .un :: .un :: .un :: .un :: .un :: .un :: .un :: .un :: .un :: .un :: .un :: .un :: .un :: .un :: .un :: .un :: .un :: .un :: .un :: .un :: .un :: .un :: .un :: .un :: .un :: .un :: .un :: .un :: [])) rfl ?_
  refine aw_seq ?_
  refine aw_region ?_
  apply al_stepN
  · exact op_assign_const (by rfl)
  · rfl
  · (try dsimp only [putT, List.set_cons_zero, List.set_cons_succ]); try exact rfl
  apply al_end
  · (try dsimp only [putT, List.set_cons_zero, List.set_cons_succ]); try exact rfl
  refine then_normal ?_
  refine aw_seq ?_
  refine aw_seq ?_
  refine aw_region ?_
  apply al_stepN
  · exact op_callF Try.func11 (by rfl) (by rfl) .nil (head_ok _)
  · rfl
  · (try dsimp only [putT, List.set_cons_zero, List.set_cons_succ]); try exact rfl
  apply al_stepN
  · exact op_not (by rfl)
  · rfl
  · (try dsimp only [putT, List.set_cons_zero, List.set_cons_succ]); try exact rfl
  apply al_end
  · (try dsimp only [putT, List.set_cons_zero, List.set_cons_succ]); try exact rfl
  refine then_normal ?_
  refine aw_cond rfl (fun hc1 => ?_) (fun hc1 => ?_)
  · skip
    (try simp only [decide_eq_true_eq, decide_eq_false_iff_not, beq_iff_eq, beq_eq_false_iff_ne, Bool.not_eq_true', Bool.not_eq_false', bne_iff_ne, ne_eq, Decidable.not_not, bne_eq_false_iff_eq, List.length_map] at hc1)
    exact absurd hc1 (by decide)
  · skip
    (try simp only [decide_eq_true_eq, decide_eq_false_iff_not, beq_iff_eq, beq_eq_false_iff_ne, Bool.not_eq_true', Bool.not_eq_false', bne_iff_ne, ne_eq, Decidable.not_not, bne_eq_false_iff_eq, List.length_map] at hc1)
    refine aw_skip ?_
    refine then_normal ?_
    refine aw_seq ?_
    refine aw_seq ?_
    refine aw_region ?_
    apply al_stepN
    · exact op_move_tmp (by rfl)
    · rfl
    · (try dsimp only [putT, List.set_cons_zero, List.set_cons_succ]); try exact rfl
    apply al_stepN
    · exact op_lenL Try.underlying32 (by first | exact LL.d _ _ | exact LL.own _ _ _ | exact LL.nil _ | assumption)
    · rfl
    · (try dsimp only [putT, List.set_cons_zero, List.set_cons_succ]); try exact rfl
    apply al_stepN
    · exact op_gtI (by rfl) (by rfl)
    · rfl
    · (try dsimp only [putT, List.set_cons_zero, List.set_cons_succ]); try exact rfl
    apply al_stepN
    · exact op_move_tmp (by rfl)
    · rfl
    · (try dsimp only [putT, List.set_cons_zero, List.set_cons_succ]); try exact rfl
    refine al_split 18 rfl (fun hg2 => ?_) (fun hg2 => ?_)
    · skip
      (try simp only [decide_eq_true_eq, decide_eq_false_iff_not, beq_iff_eq, beq_eq_false_iff_ne, Bool.not_eq_true', Bool.not_eq_false', bne_iff_ne, ne_eq, Decidable.not_not, bne_eq_false_iff_eq, List.length_map] at hg2)
      apply al_normT
      · (try dsimp only [putT, List.set_cons_zero, List.set_cons_succ]); try exact rfl
      refine al_unwanted rfl rfl rfl rfl ?_
      apply al_normT
      · (try dsimp only [putT, List.set_cons_zero, List.set_cons_succ]); try exact rfl
      refine al_unwanted rfl rfl rfl rfl ?_
      apply al_normT
      · (try dsimp only [putT, List.set_cons_zero, List.set_cons_succ]); try exact rfl
      refine al_unwanted rfl rfl rfl rfl ?_
      apply al_normT
      · (try dsimp only [putT, List.set_cons_zero, List.set_cons_succ]); try exact rfl
      apply al_stepN
      · exact op_pick_tt (by rfl) (val_const (by rfl))
      · rfl
      · (try dsimp only [putT, List.set_cons_zero, List.set_cons_succ]); try exact rfl
      apply al_end
      · (try dsimp only [putT, List.set_cons_zero, List.set_cons_succ]); try exact rfl
      refine then_normal ?_
      refine aw_cond rfl (fun _ => ?_) (fun h => by cases h)
      refine aw_seq ?_
      refine aw_region ?_
      apply al_stepN
      · exact op_assign_const (by rfl)
      · rfl
      · (try dsimp only [putT, List.set_cons_zero, List.set_cons_succ]); try exact rfl
      apply al_end
      · (try dsimp only [putT, List.set_cons_zero, List.set_cons_succ]); try exact rfl
      refine then_normal ?_
      refine aw_ret ?_
      refine then_ret ?_
      refine retPost1 rfl rfl ?_
      first | exact rfl | (rw [hE, ha0]; rfl) | (rw [hE, ← begins_keyL, hbeg, hL]; first | rfl | simp [hx, TF])
    · skip
      (try simp only [decide_eq_true_eq, decide_eq_false_iff_not, beq_iff_eq, beq_eq_false_iff_ne, Bool.not_eq_true', Bool.not_eq_false', bne_iff_ne, ne_eq, Decidable.not_not, bne_eq_false_iff_eq, List.length_map] at hg2)
      apply al_normT
      · (try dsimp only [putT, List.set_cons_zero, List.set_cons_succ]); try exact rfl
      apply al_wantedN
      · rfl
      · rfl
      · rfl
      · exact op_move_tmp (by rfl)
      · (try dsimp only [putT, List.set_cons_zero, List.set_cons_succ]); try exact rfl
      apply al_wantedN
      · rfl
      · rfl
      · rfl
      · exact op_lenL Try.underlying32 (by first | exact LL.d _ _ | exact LL.own _ _ _ | exact LL.nil _ | assumption)
      · (try dsimp only [putT, List.set_cons_zero, List.set_cons_succ]); try exact rfl
      apply al_wantedN
      · rfl
      · rfl
      · rfl
      · exact op_gtI (by rfl) (by rfl)
      · (try dsimp only [putT, List.set_cons_zero, List.set_cons_succ]); try exact rfl
      apply al_stepN
      · exact op_pick_ff (by rfl) (val_tmp (by rfl))
      · rfl
      · (try dsimp only [putT, List.set_cons_zero, List.set_cons_succ]); try exact rfl
      apply al_end
      · (try dsimp only [putT, List.set_cons_zero, List.set_cons_succ]); try exact rfl
      refine then_normal ?_
      refine aw_cond rfl (fun hc4 => ?_) (fun hc4 => ?_)
      · skip
        (try simp only [decide_eq_true_eq, decide_eq_false_iff_not, beq_iff_eq, beq_eq_false_iff_ne, Bool.not_eq_true', Bool.not_eq_false', bne_iff_ne, ne_eq, Decidable.not_not, bne_eq_false_iff_eq, List.length_map] at hc4)
        refine aw_seq ?_
        refine aw_region ?_
        apply al_stepN
        · exact op_assign_const (by rfl)
        · rfl
        · (try dsimp only [putT, List.set_cons_zero, List.set_cons_succ]); try exact rfl
        apply al_end
        · (try dsimp only [putT, List.set_cons_zero, List.set_cons_succ]); try exact rfl
        refine then_normal ?_
        refine aw_ret ?_
        refine then_ret ?_
        refine retPost1 rfl rfl ?_
        first | exact rfl | (rw [hE, ha0]; rfl) | (rw [hE, ← begins_keyL, hbeg, hL]; first | rfl | simp [hx, TF])
      · skip
        (try simp only [decide_eq_true_eq, decide_eq_false_iff_not, beq_iff_eq, beq_eq_false_iff_ne, Bool.not_eq_true', Bool.not_eq_false', bne_iff_ne, ne_eq, Decidable.not_not, bne_eq_false_iff_eq, List.length_map] at hc4)
        refine aw_skip ?_
        refine then_normal ?_
        refine aw_seq ?_
        refine aw_seq ?_
        refine aw_region ?_
        apply al_stepN
        · exact op_lit Try.underlying32 ZS9 (.nil _) (by rfl) (by simp [BY, S, I, TF, DV.cells]) (by simp [flat, BY, S, I, TF, DV.cells, DV.one]) (by decide)
        · rfl
        · (try dsimp only [putT, List.set_cons_zero, List.set_cons_succ]); try exact rfl
        apply al_stepN
        · exact op_move_tmp (by rfl)
        · rfl
        · (try dsimp only [putT, List.set_cons_zero, List.set_cons_succ]); try exact rfl
        refine al_cons _ (op_appendX Try.underlying32 Inf9 (by rfl) (val_tmp (by rfl)) (App.own _ _ _) (val_tmp (by rfl)) (.list _ _ _ _ Try.underlying32 (LL.d _ _)) (HS.ok_none _ _) (by simp; omega) (by simp; omega)) rfl ?_
        rintro v1 H1 ⟨t1, hA1, hH1, hO1⟩
        apply al_normT
        · (try dsimp only [putT, List.set_cons_zero, List.set_cons_succ]); try exact rfl
        apply al_stepN
        · exact op_move_tmp (by rfl)
        · rfl
        · (try dsimp only [putT, List.set_cons_zero, List.set_cons_succ]); try exact rfl
        refine al_cons _ (op_appendX Try.underlying32 Inf9 (by rfl) (val_tmp (by rfl)) hA1 (val_tmp (by rfl)) (.list _ _ _ _ Try.underlying32 (LL.d _ _)) hO1 (by simp; omega) (by simp; omega)) rfl ?_
        rintro v2 H2 ⟨t2, hA2, hH2, hO2⟩
        apply al_normT
        · (try dsimp only [putT, List.set_cons_zero, List.set_cons_succ]); try exact rfl
        apply al_stepN
        · exact op_lenL Try.underlying32 hA2.ll
        · rfl
        · (try dsimp only [putT, List.set_cons_zero, List.set_cons_succ]); try exact rfl
        apply al_stepN
        · exact op_move_const (by rfl)
        · rfl
        · (try dsimp only [putT, List.set_cons_zero, List.set_cons_succ]); try exact rfl
        apply al_end
        · (try dsimp only [putT, List.set_cons_zero, List.set_cons_succ]); try exact rfl
        refine then_normal ?_
        refine aw_block ?_
        apply aw_loopF (fun n T H => ∃ (k : Nat), T = ((.d (.lst 1 (a.map S))) :: (.d (.lst 1 (b.map S))) :: .un :: .un :: .un :: .un :: .un :: .un :: .un :: .un :: .un :: .un :: .un :: .un :: .un :: .un :: .un :: .un :: .un :: .un :: .un :: .un :: .un :: .un :: .un :: .un :: .un :: v2 :: (.d (I ([] ++ a.map S ++ b.map S).length)) :: (.d (I k)) :: .un :: .un :: .un :: .un :: .un :: .un :: .un :: .un :: .un :: .un :: .un :: .un :: .un :: .un :: .un :: .un :: .un :: .un :: .un :: .un :: .un :: .un :: .un :: .un :: .un :: .un :: .un :: .un :: .un :: .un :: .un :: .un :: .un :: .un :: .un :: .un :: .un :: .un :: .un :: .un :: .un :: .un :: .un :: .un :: .un :: .un :: .un :: .un :: .un :: .un :: .un :: .un :: .un :: .un :: .un :: .un :: .un :: .un :: .un :: .un :: []) ∧ k ≤ (a ++ b).length ∧ n = (a ++ b).length - k ∧ ∀ x ∈ (a ++ b).take k, x.length ≤ 40) ((a ++ b).length) (true :: true :: false :: false :: false :: false :: false :: false :: false :: false :: false :: false :: false :: false :: false :: false :: false :: false :: false :: false :: false :: false :: false :: false :: false :: false :: false :: true :: true :: true :: false :: false :: false :: false :: false :: false :: false :: false :: false :: false :: false :: false :: false :: false :: false :: false :: false :: false :: false :: false :: false :: false :: false :: false :: false :: false :: false :: false :: false :: false :: false :: false :: false :: false :: false :: false :: false :: false :: false :: false :: false :: false :: false :: false :: false :: false :: false :: false :: false :: false :: false :: false :: false :: false :: false :: false :: false :: false :: false :: false :: [])
        · (try dsimp only [maskT]); try exact rfl
        · rfl
        · exact ⟨0, rfl, by omega, rfl, by simp⟩
        rintro n T H ⟨k, rfl, hk, rfl, hall⟩
        refine aw_seq ?_
        refine aw_region ?_
        apply al_stepN
        · exact op_ltI (by rfl) (by rfl)
        · rfl
        · (try dsimp only [putT, List.set_cons_zero, List.set_cons_succ]); try exact rfl
        apply al_end
        · (try dsimp only [putT, List.set_cons_zero, List.set_cons_succ]); try exact rfl
        refine then_normal ?_
        refine aw_seq ?_
        refine aw_cond rfl (fun hc5 => ?_) (fun hc5 => ?_)
        · skip
          (try simp only [decide_eq_true_eq, decide_eq_false_iff_not, beq_iff_eq, beq_eq_false_iff_ne, Bool.not_eq_true', Bool.not_eq_false', bne_iff_ne, ne_eq, Decidable.not_not, bne_eq_false_iff_eq, List.length_map] at hc5)
          have hl2 : (a ++ b).length ≤ 12 := by rw [List.length_append]; omega
          have hlt : k < (a ++ b).length := by simp at hc5 ⊢; omega
          obtain ⟨p, hcc⟩ : ∃ c, (a ++ b)[k]? = some c := ⟨_, List.getElem?_eq_getElem hlt⟩
          refine aw_skip ?_
          refine then_normal ?_
          refine aw_seq ?_
          refine aw_block ?_
          refine aw_seq ?_
          refine aw_region ?_
          apply al_stepN
          · exact op_indexAddr Try.underlying32 Sz9 hA2.ll (by rfl) (by omega) (show (_ : List DV)[((k : Nat) : Int).toNat]? = some (S p) by simp [← List.map_append, hcc]) (by rfl)
          · rfl
          · (try dsimp only [putT, List.set_cons_zero, List.set_cons_succ]); try exact rfl
          apply al_stepN
          · first | exact op_load_elt Try.underlying9 (by rfl) (by rfl) (by rfl) | exact op_load_ptr Try.underlying9 (by rfl) (by rfl) (by rfl) (by rfl)
          · rfl
          · (try dsimp only [putT, List.set_cons_zero, List.set_cons_succ]); try exact rfl
          apply al_stepN
          · exact op_assign_tmp (by rfl)
          · rfl
          · (try dsimp only [putT, List.set_cons_zero, List.set_cons_succ]); try exact rfl
          apply al_end
          · (try dsimp only [putT, List.set_cons_zero, List.set_cons_succ]); try exact rfl
          refine then_normal ?_
          refine aw_seq ?_
          refine aw_region ?_
          apply al_stepN
          · exact op_move_tmp (by rfl)
          · rfl
          · (try dsimp only [putT, List.set_cons_zero, List.set_cons_succ]); try exact rfl
          apply al_stepN
          · exact op_lenS Try.underlying9 (by rfl)
          · rfl
          · (try dsimp only [putT, List.set_cons_zero, List.set_cons_succ]); try exact rfl
          apply al_stepN
          · exact op_gtI (by rfl) (by rfl)
          · rfl
          · (try dsimp only [putT, List.set_cons_zero, List.set_cons_succ]); try exact rfl
          apply al_end
          · (try dsimp only [putT, List.set_cons_zero, List.set_cons_succ]); try exact rfl
          refine then_normal ?_
          refine aw_cond rfl (fun hc6 => ?_) (fun hc6 => ?_)
          · skip
            (try simp only [decide_eq_true_eq, decide_eq_false_iff_not, beq_iff_eq, beq_eq_false_iff_ne, Bool.not_eq_true', Bool.not_eq_false', bne_iff_ne, ne_eq, Decidable.not_not, bne_eq_false_iff_eq, List.length_map] at hc6)
            refine aw_seq ?_
            refine aw_region ?_
            apply al_stepN
            · exact op_assign_const (by rfl)
            · rfl
            · (try dsimp only [putT, List.set_cons_zero, List.set_cons_succ]); try exact rfl
            apply al_end
            · (try dsimp only [putT, List.set_cons_zero, List.set_cons_succ]); try exact rfl
            refine then_normal ?_
            refine aw_ret ?_
            refine inBlock_ret (then_ret (again_ret (inBlock_ret (then_ret ?_))))
            refine retPost1 rfl rfl ?_
            first | exact rfl | (rw [hE, ha0]; rfl) | (rw [hE, ← begins_keyL, hbeg, hL]; first | rfl | simp [hx, TF])
          · skip
            (try simp only [decide_eq_true_eq, decide_eq_false_iff_not, beq_iff_eq, beq_eq_false_iff_ne, Bool.not_eq_true', Bool.not_eq_false', bne_iff_ne, ne_eq, Decidable.not_not, bne_eq_false_iff_eq, List.length_map] at hc6)
            refine aw_skip ?_
            refine inBlock_normal (then_normal ?_)
            refine aw_region ?_
            apply al_stepN
            · first | exact op_add (by rfl) (by rfl) (wrap_i64 ⟨by omega, by omega⟩) | exact op_add (by rfl) (by rfl) (by rfl)
            · rfl
            · (try dsimp only [putT, List.set_cons_zero, List.set_cons_succ]); try exact rfl
            apply al_stepN
            · exact op_move_tmp (by rfl)
            · rfl
            · (try dsimp only [putT, List.set_cons_zero, List.set_cons_succ]); try exact rfl
            apply al_end
            · (try dsimp only [putT, List.set_cons_zero, List.set_cons_succ]); try exact rfl
            apply again_to ((a ++ b).length - (k + 1)) (true :: true :: false :: false :: false :: false :: false :: false :: false :: false :: false :: false :: false :: false :: false :: false :: false :: false :: false :: false :: false :: false :: false :: false :: false :: false :: false :: true :: true :: true :: false :: false :: false :: false :: false :: false :: false :: false :: false :: false :: false :: false :: false :: false :: false :: false :: false :: false :: false :: false :: false :: false :: false :: false :: false :: false :: false :: false :: false :: false :: false :: false :: false :: false :: false :: false :: false :: false :: false :: false :: false :: false :: false :: false :: false :: false :: false :: false :: false :: false :: false :: false :: false :: false :: false :: false :: false :: false :: false :: false :: [])
            · (try dsimp only [maskT]); try exact rfl
            · rfl
            · omega
            exact ⟨k + 1, rfl, by omega, rfl, by rw [take_snoc hcc]; intro x hx; rcases List.mem_append.1 hx with hx | hx; exact hall x hx; simp at hx; subst hx; omega⟩
        · skip
          (try simp only [decide_eq_true_eq, decide_eq_false_iff_not, beq_iff_eq, beq_eq_false_iff_ne, Bool.not_eq_true', Bool.not_eq_false', bne_iff_ne, ne_eq, Decidable.not_not, bne_eq_false_iff_eq, List.length_map] at hc5)
          have hke : k = (a ++ b).length := by simp at hc5 hk ⊢; omega
          subst hke
          rw [List.take_length] at hall
          have hka := keys_short (l := a) (by omega) (fun x hx => hall x (by simp [hx]))
          have hkb := keys_short (l := b) (by omega) (fun x hx => hall x (by simp [hx]))
          refine aw_exit ?_
          refine then_exit (again_exit (inBlock_here (then_normal ?_)))
          refine aw_seq ?_
          refine aw_region ?_
          apply al_stepN
          · exact op_move_tmp (by rfl)
          · rfl
          · (try dsimp only [putT, List.set_cons_zero, List.set_cons_succ]); try exact rfl
          apply al_stepN
          · exact op_lenL Try.underlying32 (by first | exact LL.d _ _ | exact LL.own _ _ _ | exact LL.nil _ | assumption)
          · rfl
          · (try dsimp only [putT, List.set_cons_zero, List.set_cons_succ]); try exact rfl
          apply al_stepN
          · exact op_move_tmp (by rfl)
          · rfl
          · (try dsimp only [putT, List.set_cons_zero, List.set_cons_succ]); try exact rfl
          apply al_stepN
          · exact op_lenL Try.underlying32 (by first | exact LL.d _ _ | exact LL.own _ _ _ | exact LL.nil _ | assumption)
          · rfl
          · (try dsimp only [putT, List.set_cons_zero, List.set_cons_succ]); try exact rfl
          apply al_stepN
          · exact op_geI (by rfl) (by rfl)
          · rfl
          · (try dsimp only [putT, List.set_cons_zero, List.set_cons_succ]); try exact rfl
          apply al_stepN
          · exact op_assign_tmp (by rfl)
          · rfl
          · (try dsimp only [putT, List.set_cons_zero, List.set_cons_succ]); try exact rfl
          apply al_end
          · (try dsimp only [putT, List.set_cons_zero, List.set_cons_succ]); try exact rfl
          refine then_normal ?_
          refine aw_seq ?_
          refine aw_seq ?_
          refine aw_region ?_
          apply al_stepN
          · exact op_assign_const (by rfl)
          · rfl
          · (try dsimp only [putT, List.set_cons_zero, List.set_cons_succ]); try exact rfl
          apply al_end
          · (try dsimp only [putT, List.set_cons_zero, List.set_cons_succ]); try exact rfl
          refine then_normal ?_
          refine aw_block ?_
          apply aw_loopF (fun n T H => ∃ (k : Nat), T = ((.d (.lst 1 (a.map S))) :: (.d (.lst 1 (b.map S))) :: .un :: .un :: .un :: .un :: .un :: (.d (TF (decide (a.length ≤ b.length) && pref (a.take k) b))) :: (.d (I k)) :: .un :: .un :: .un :: .un :: .un :: .un :: .un :: .un :: .un :: .un :: .un :: .un :: .un :: .un :: .un :: .un :: .un :: .un :: .un :: .un :: .un :: .un :: .un :: .un :: .un :: .un :: .un :: .un :: .un :: .un :: .un :: .un :: .un :: .un :: .un :: .un :: .un :: .un :: .un :: .un :: .un :: .un :: .un :: .un :: .un :: .un :: .un :: .un :: .un :: .un :: .un :: .un :: .un :: .un :: .un :: .un :: .un :: .un :: .un :: .un :: .un :: .un :: .un :: .un :: .un :: .un :: .un :: .un :: .un :: .un :: .un :: .un :: .un :: .un :: .un :: .un :: .un :: .un :: .un :: .un :: .un :: []) ∧ k ≤ a.length ∧ n = a.length - k) (a.length) (true :: true :: false :: false :: false :: false :: false :: true :: true :: false :: false :: false :: false :: false :: false :: false :: false :: false :: false :: false :: false :: false :: false :: false :: false :: false :: false :: false :: false :: false :: false :: false :: false :: false :: false :: false :: false :: false :: false :: false :: false :: false :: false :: false :: false :: false :: false :: false :: false :: false :: false :: false :: false :: false :: false :: false :: false :: false :: false :: false :: false :: false :: false :: false :: false :: false :: false :: false :: false :: false :: false :: false :: false :: false :: false :: false :: false :: false :: false :: false :: false :: false :: false :: false :: false :: false :: false :: false :: false :: false :: [])
          · (try dsimp only [maskT]); try exact rfl
          · rfl
          · exact ⟨0, by simp [pref]; rfl, by omega, rfl⟩
          rintro n T H ⟨k, rfl, hk, rfl⟩
          refine aw_seq ?_
          refine aw_seq ?_
          refine aw_region ?_
          apply al_stepN
          · exact op_move_tmp (by rfl)
          · rfl
          · (try dsimp only [putT, List.set_cons_zero, List.set_cons_succ]); try exact rfl
          apply al_stepN
          · exact op_move_tmp (by rfl)
          · rfl
          · (try dsimp only [putT, List.set_cons_zero, List.set_cons_succ]); try exact rfl
          refine al_split 43 rfl (fun hg7 => ?_) (fun hg7 => ?_)
          · skip
            (try simp only [decide_eq_true_eq, decide_eq_false_iff_not, beq_iff_eq, beq_eq_false_iff_ne, Bool.not_eq_true', Bool.not_eq_false', bne_iff_ne, ne_eq, Decidable.not_not, bne_eq_false_iff_eq, List.length_map] at hg7)
            have hab : a.length ≤ b.length := by simp at hg7; exact hg7.1
            have hp : pref (a.take k) b = true := by simp at hg7; exact hg7.2
            apply al_normT
            · (try dsimp only [putT, List.set_cons_zero, List.set_cons_succ]); try exact rfl
            apply al_wantedN
            · rfl
            · rfl
            · rfl
            · exact op_move_tmp (by rfl)
            · (try dsimp only [putT, List.set_cons_zero, List.set_cons_succ]); try exact rfl
            apply al_wantedN
            · rfl
            · rfl
            · rfl
            · exact op_move_tmp (by rfl)
            · (try dsimp only [putT, List.set_cons_zero, List.set_cons_succ]); try exact rfl
            apply al_wantedN
            · rfl
            · rfl
            · rfl
            · exact op_lenL Try.underlying32 (by first | exact LL.d _ _ | exact LL.own _ _ _ | exact LL.nil _ | assumption)
            · (try dsimp only [putT, List.set_cons_zero, List.set_cons_succ]); try exact rfl
            apply al_wantedN
            · rfl
            · rfl
            · rfl
            · exact op_ltI (by rfl) (by rfl)
            · (try dsimp only [putT, List.set_cons_zero, List.set_cons_succ]); try exact rfl
            apply al_stepN
            · exact op_pick_tt (by rfl) (val_tmp (by rfl))
            · rfl
            · (try dsimp only [putT, List.set_cons_zero, List.set_cons_succ]); try exact rfl
            apply al_end
            · (try dsimp only [putT, List.set_cons_zero, List.set_cons_succ]); try exact rfl
            refine then_normal ?_
            refine aw_cond rfl (fun hc8 => ?_) (fun hc8 => ?_)
            · skip
              (try simp only [decide_eq_true_eq, decide_eq_false_iff_not, beq_iff_eq, beq_eq_false_iff_ne, Bool.not_eq_true', Bool.not_eq_false', bne_iff_ne, ne_eq, Decidable.not_not, bne_eq_false_iff_eq, List.length_map] at hc8)
              obtain ⟨x, hx⟩ : ∃ c, a[k]? = some c := ⟨_, List.getElem?_eq_getElem (by omega)⟩
              obtain ⟨y, hy⟩ : ∃ c, b[k]? = some c := ⟨_, List.getElem?_eq_getElem (by omega)⟩
              refine aw_skip ?_
              refine then_normal ?_
              refine aw_seq ?_
              refine aw_block ?_
              refine aw_draw [0, 0, 0, 1, 0, 0, 0, 1, 0, 0] mixed (by kernel_rfl) ?_
              apply drun0
              · intro H; exact op_move_tmp (by rfl)
              · rfl
              apply drun_normT
              · (try dsimp only [putT, List.set_cons_zero, List.set_cons_succ]); try exact rfl
              apply drun0
              · intro H; exact op_move_tmp (by rfl)
              · rfl
              apply drun_normT
              · (try dsimp only [putT, List.set_cons_zero, List.set_cons_succ]); try exact rfl
              apply drun0
              · intro H; exact op_indexAddr Try.underlying32 Sz9 (LL.d _ _) (by rfl) (by omega) (show (a.map S)[((k : Nat) : Int).toNat]? = some (S x) by simp [hx]) (by rfl)
              · rfl
              apply drun_normT
              · (try dsimp only [putT, List.set_cons_zero, List.set_cons_succ]); try exact rfl
              apply drun1
              · first | exact op_load_elt Try.underlying9 (by rfl) (by rfl) (by rfl) | exact op_load_ptr Try.underlying9 (by rfl) (by rfl) (by rfl) (by rfl)
              · rfl
              apply drun_normT
              · (try dsimp only [putT, List.set_cons_zero, List.set_cons_succ]); try exact rfl
              apply drun0
              · intro H; exact op_move_tmp (by rfl)
              · rfl
              apply drun_normT
              · (try dsimp only [putT, List.set_cons_zero, List.set_cons_succ]); try exact rfl
              apply drun0
              · intro H; exact op_move_tmp (by rfl)
              · rfl
              apply drun_normT
              · (try dsimp only [putT, List.set_cons_zero, List.set_cons_succ]); try exact rfl
              apply drun0
              · intro H; exact op_indexAddr Try.underlying32 Sz9 (LL.d _ _) (by rfl) (by omega) (show (b.map S)[((k : Nat) : Int).toNat]? = some (S y) by simp [hy]) (by rfl)
              · rfl
              apply drun_normT
              · (try dsimp only [putT, List.set_cons_zero, List.set_cons_succ]); try exact rfl
              apply drun1
              · first | exact op_load_elt Try.underlying9 (by rfl) (by rfl) (by rfl) | exact op_load_ptr Try.underlying9 (by rfl) (by rfl) (by rfl) (by rfl)
              · rfl
              apply drun_normT
              · (try dsimp only [putT, List.set_cons_zero, List.set_cons_succ]); try exact rfl
              apply drun0
              · intro H; exact op_eqS (by rfl) (by rfl)
              · rfl
              apply drun_normT
              · (try dsimp only [putT, List.set_cons_zero, List.set_cons_succ]); try exact rfl
              apply drun0
              · intro H; exact op_assign_tmp (by rfl)
              · rfl
              apply drun_normT
              · (try dsimp only [putT, List.set_cons_zero, List.set_cons_succ]); try exact rfl
              apply drun_end
              · (try dsimp only [putT, List.set_cons_zero, List.set_cons_succ]); try exact rfl
              refine inBlock_normal (then_normal ?_)
              refine aw_region ?_
              apply al_stepN
              · exact op_move_tmp (by rfl)
              · rfl
              · (try dsimp only [putT, List.set_cons_zero, List.set_cons_succ]); try exact rfl
              apply al_stepN
              · first | exact op_add (by rfl) (by rfl) (wrap_i64 ⟨by omega, by omega⟩) | exact op_add (by rfl) (by rfl) (by rfl)
              · rfl
              · (try dsimp only [putT, List.set_cons_zero, List.set_cons_succ]); try exact rfl
              apply al_stepN
              · exact op_assign_tmp (by rfl)
              · rfl
              · (try dsimp only [putT, List.set_cons_zero, List.set_cons_succ]); try exact rfl
              apply al_end
              · (try dsimp only [putT, List.set_cons_zero, List.set_cons_succ]); try exact rfl
              apply again_to (a.length - (k + 1)) (true :: true :: false :: false :: false :: false :: false :: true :: true :: false :: false :: false :: false :: false :: false :: false :: false :: false :: false :: false :: false :: false :: false :: false :: false :: false :: false :: false :: false :: false :: false :: false :: false :: false :: false :: false :: false :: false :: false :: false :: false :: false :: false :: false :: false :: false :: false :: false :: false :: false :: false :: false :: false :: false :: false :: false :: false :: false :: false :: false :: false :: false :: false :: false :: false :: false :: false :: false :: false :: false :: false :: false :: false :: false :: false :: false :: false :: false :: false :: false :: false :: false :: false :: false :: false :: false :: false :: false :: false :: false :: [])
              · (try dsimp only [maskT]); try exact rfl
              · rfl
              · omega
              exact ⟨k + 1, by rw [pref_take a b k hx hy, hp, Bool.true_and, decide_eq_true hab]; rfl, by omega, rfl⟩
            · skip
              (try simp only [decide_eq_true_eq, decide_eq_false_iff_not, beq_iff_eq, beq_eq_false_iff_ne, Bool.not_eq_true', Bool.not_eq_false', bne_iff_ne, ne_eq, Decidable.not_not, bne_eq_false_iff_eq, List.length_map] at hc8)
              have hke : k = a.length := by omega
              subst hke
              have hE : (decide (a.length ≤ b.length) && pref (a.take a.length) b) = pref a b := by simp [hab]
              refine aw_exit ?_
              refine then_exit (again_exit (inBlock_here (then_normal ?_)))
              refine aw_seq ?_
              refine aw_region ?_
              apply al_stepN
              · exact op_move_tmp (by rfl)
              · rfl
              · (try dsimp only [putT, List.set_cons_zero, List.set_cons_succ]); try exact rfl
              apply al_stepN
              · exact op_callF Try.func17 (by rfl) (by rfl) (.tmp (by rfl) .nil) (key_ok _ _ _ (LL.d _ _) (by omega))
              · rfl
              · (try dsimp only [putT, List.set_cons_zero, List.set_cons_succ]); try exact rfl
              apply al_stepN
              · exact op_assign_tmp (by rfl)
              · rfl
              · (try dsimp only [putT, List.set_cons_zero, List.set_cons_succ]); try exact rfl
              apply al_end
              · (try dsimp only [putT, List.set_cons_zero, List.set_cons_succ]); try exact rfl
              refine then_normal ?_
              refine aw_seq ?_
              refine aw_region ?_
              apply al_stepN
              · exact op_move_tmp (by rfl)
              · rfl
              · (try dsimp only [putT, List.set_cons_zero, List.set_cons_succ]); try exact rfl
              apply al_stepN
              · exact op_callF Try.func17 (by rfl) (by rfl) (.tmp (by rfl) .nil) (key_ok _ _ _ (LL.d _ _) (by omega))
              · rfl
              · (try dsimp only [putT, List.set_cons_zero, List.set_cons_succ]); try exact rfl
              apply al_stepN
              · exact op_assign_tmp (by rfl)
              · rfl
              · (try dsimp only [putT, List.set_cons_zero, List.set_cons_succ]); try exact rfl
              apply al_end
              · (try dsimp only [putT, List.set_cons_zero, List.set_cons_succ]); try exact rfl
              refine then_normal ?_
              refine aw_seq ?_
              refine aw_region ?_
              apply al_stepN
              · exact op_move_tmp (by rfl)
              · rfl
              · (try dsimp only [putT, List.set_cons_zero, List.set_cons_succ]); try exact rfl
              apply al_stepN
              · exact op_callF Try.func15 (by rfl) (by rfl) (.tmp (by rfl) .nil) (after_ok _ _ (by have := keyL_le a; omega))
              · rfl
              · (try dsimp only [putT, List.set_cons_zero, List.set_cons_succ]); try exact rfl
              apply al_stepN
              · exact op_move_tmp (by rfl)
              · rfl
              · (try dsimp only [putT, List.set_cons_zero, List.set_cons_succ]); try exact rfl
              apply al_stepN
              · exact op_extract (by rfl) (by rfl)
              · rfl
              · (try dsimp only [putT, List.set_cons_zero, List.set_cons_succ]); try exact rfl
              apply al_stepN
              · exact op_extract (by rfl) (by rfl)
              · rfl
              · (try dsimp only [putT, List.set_cons_zero, List.set_cons_succ]); try exact rfl
              apply al_stepN
              · exact op_assign_tmp (by rfl)
              · rfl
              · (try dsimp only [putT, List.set_cons_zero, List.set_cons_succ]); try exact rfl
              apply al_stepN
              · exact op_assign_tmp (by rfl)
              · rfl
              · (try dsimp only [putT, List.set_cons_zero, List.set_cons_succ]); try exact rfl
              apply al_end
              · (try dsimp only [putT, List.set_cons_zero, List.set_cons_succ]); try exact rfl
              refine then_normal ?_
              refine aw_seq ?_
              refine aw_seq ?_
              refine aw_region ?_
              apply al_stepN
              · exact op_move_tmp (by rfl)
              · rfl
              · (try dsimp only [putT, List.set_cons_zero, List.set_cons_succ]); try exact rfl
              apply al_stepN
              · exact op_lenL Try.underlying32 (by first | exact LL.d _ _ | exact LL.own _ _ _ | exact LL.nil _ | assumption)
              · rfl
              · (try dsimp only [putT, List.set_cons_zero, List.set_cons_succ]); try exact rfl
              apply al_stepN
              · exact op_eqI (by rfl) (by rfl)
              · rfl
              · (try dsimp only [putT, List.set_cons_zero, List.set_cons_succ]); try exact rfl
              apply al_end
              · (try dsimp only [putT, List.set_cons_zero, List.set_cons_succ]); try exact rfl
              refine then_normal ?_
              refine aw_cond rfl (fun hc9 => ?_) (fun hc9 => ?_)
              · skip
                (try simp only [decide_eq_true_eq, decide_eq_false_iff_not, beq_iff_eq, beq_eq_false_iff_ne, Bool.not_eq_true', Bool.not_eq_false', bne_iff_ne, ne_eq, Decidable.not_not, bne_eq_false_iff_eq, List.length_map] at hc9)
                have ha0 : a = [] := List.length_eq_zero_iff.1 (by omega)
                have hnone : after (keyL a) = none := by subst ha0; rfl
                refine aw_seq ?_
                refine aw_region ?_
                apply al_stepN
                · exact op_move_tmp (by rfl)
                · rfl
                · (try dsimp only [putT, List.set_cons_zero, List.set_cons_succ]); try exact rfl
                apply al_stepN
                · exact op_not (by rfl)
                · rfl
                · (try dsimp only [putT, List.set_cons_zero, List.set_cons_succ]); try exact rfl
                apply al_stepN
                · exact op_move_tmp (by rfl)
                · rfl
                · (try dsimp only [putT, List.set_cons_zero, List.set_cons_succ]); try exact rfl
                refine al_split 74 rfl (fun hg10 => ?_) (fun hg10 => ?_)
                · skip
                  (try simp only [decide_eq_true_eq, decide_eq_false_iff_not, beq_iff_eq, beq_eq_false_iff_ne, Bool.not_eq_true', Bool.not_eq_false', bne_iff_ne, ne_eq, Decidable.not_not, bne_eq_false_iff_eq, List.length_map] at hg10)
                  apply al_normT
                  · (try dsimp only [putT, List.set_cons_zero, List.set_cons_succ]); try exact rfl
                  apply al_wantedN
                  · rfl
                  · rfl
                  · rfl
                  · exact op_move_tmp (by rfl)
                  · (try dsimp only [putT, List.set_cons_zero, List.set_cons_succ]); try exact rfl
                  apply al_stepN
                  · exact op_pick_tt (by rfl) (val_tmp (by rfl))
                  · rfl
                  · (try dsimp only [putT, List.set_cons_zero, List.set_cons_succ]); try exact rfl
                  apply al_stepN
                  · exact op_assign_tmp (by rfl)
                  · rfl
                  · (try dsimp only [putT, List.set_cons_zero, List.set_cons_succ]); try exact rfl
                  apply al_end
                  · (try dsimp only [putT, List.set_cons_zero, List.set_cons_succ]); try exact rfl
                  refine then_normal ?_
                  refine aw_ret ?_
                  refine then_ret ?_
                  refine retPost1 rfl rfl ?_
                  first | exact rfl | (rw [hE, ha0]; rfl) | (rw [hE, ← begins_keyL, hbeg, hL]; first | rfl | simp [hx, TF])
                · skip
                  (try simp only [decide_eq_true_eq, decide_eq_false_iff_not, beq_iff_eq, beq_eq_false_iff_ne, Bool.not_eq_true', Bool.not_eq_false', bne_iff_ne, ne_eq, Decidable.not_not, bne_eq_false_iff_eq, List.length_map] at hg10)
                  apply al_normT
                  · (try dsimp only [putT, List.set_cons_zero, List.set_cons_succ]); try exact rfl
                  simp [hnone] at hg10
              · skip
                (try simp only [decide_eq_true_eq, decide_eq_false_iff_not, beq_iff_eq, beq_eq_false_iff_ne, Bool.not_eq_true', Bool.not_eq_false', bne_iff_ne, ne_eq, Decidable.not_not, bne_eq_false_iff_eq, List.length_map] at hc9)
                have hsome : (aft (keyL a)).isSome = true := by rw [aft_keyL]; cases a with | nil => exact absurd rfl hc9 | cons x xs => rfl
                obtain ⟨z, hx⟩ := Option.isSome_iff_exists.1 hsome
                have hbeg := aft_begins hx (keyL b)
                rw [← after_eq] at hsome hx
                refine aw_skip ?_
                refine then_normal ?_
                refine aw_seq ?_
                refine aw_region ?_
                apply al_stepN
                · exact op_move_tmp (by rfl)
                · rfl
                · (try dsimp only [putT, List.set_cons_zero, List.set_cons_succ]); try exact rfl
                apply al_stepN
                · exact op_move_tmp (by rfl)
                · rfl
                · (try dsimp only [putT, List.set_cons_zero, List.set_cons_succ]); try exact rfl
                refine al_split 78 rfl (fun hg11 => ?_) (fun hg11 => ?_)
                · skip
                  (try simp only [decide_eq_true_eq, decide_eq_false_iff_not, beq_iff_eq, beq_eq_false_iff_ne, Bool.not_eq_true', Bool.not_eq_false', bne_iff_ne, ne_eq, Decidable.not_not, bne_eq_false_iff_eq, List.length_map] at hg11)
                  apply al_normT
                  · (try dsimp only [putT, List.set_cons_zero, List.set_cons_succ]); try exact rfl
                  apply al_wantedN
                  · rfl
                  · rfl
                  · rfl
                  · exact op_move_tmp (by rfl)
                  · (try dsimp only [putT, List.set_cons_zero, List.set_cons_succ]); try exact rfl
                  apply al_wantedN
                  · rfl
                  · rfl
                  · rfl
                  · exact op_move_tmp (by rfl)
                  · (try dsimp only [putT, List.set_cons_zero, List.set_cons_succ]); try exact rfl
                  apply al_wantedN
                  · rfl
                  · rfl
                  · rfl
                  · exact op_move_tmp (by rfl)
                  · (try dsimp only [putT, List.set_cons_zero, List.set_cons_succ]); try exact rfl
                  apply al_wantedN
                  · rfl
                  · rfl
                  · rfl
                  · exact op_geS (by rfl) (by rfl)
                  · (try dsimp only [putT, List.set_cons_zero, List.set_cons_succ]); try exact rfl
                  apply al_wantedN
                  · rfl
                  · rfl
                  · rfl
                  · exact op_move_tmp (by rfl)
                  · (try dsimp only [putT, List.set_cons_zero, List.set_cons_succ]); try exact rfl
                  refine al_split 83 rfl (fun hg12 => ?_) (fun hg12 => ?_)
                  · skip
                    (try simp only [decide_eq_true_eq, decide_eq_false_iff_not, beq_iff_eq, beq_eq_false_iff_ne, Bool.not_eq_true', Bool.not_eq_false', bne_iff_ne, ne_eq, Decidable.not_not, bne_eq_false_iff_eq, List.length_map] at hg12)
                    have hL : Go.Op.bytesLess (keyL b) (keyL a) = false := by simpa using hg12
                    apply al_normT
                    · (try dsimp only [putT, List.set_cons_zero, List.set_cons_succ]); try exact rfl
                    apply al_wantedN
                    · rfl
                    · rfl
                    · rfl
                    · exact op_move_tmp (by rfl)
                    · (try dsimp only [putT, List.set_cons_zero, List.set_cons_succ]); try exact rfl
                    apply al_wantedN
                    · rfl
                    · rfl
                    · rfl
                    · exact op_move_tmp (by rfl)
                    · (try dsimp only [putT, List.set_cons_zero, List.set_cons_succ]); try exact rfl
                    apply al_wantedN
                    · rfl
                    · rfl
                    · rfl
                    · exact op_ltS (by rfl) (by rfl)
                    · (try dsimp only [putT, List.set_cons_zero, List.set_cons_succ]); try exact rfl
                    apply al_wantedN
                    · rfl
                    · rfl
                    · rfl
                    · exact op_pick_tt (by rfl) (val_tmp (by rfl))
                    · (try dsimp only [putT, List.set_cons_zero, List.set_cons_succ]); try exact rfl
                    apply al_wantedN
                    · rfl
                    · rfl
                    · rfl
                    · exact op_eqB Try.underlying4 (by rfl) (by rfl)
                    · (try dsimp only [putT, List.set_cons_zero, List.set_cons_succ]); try exact rfl
                    apply al_stepN
                    · exact op_pick_tt (by rfl) (val_tmp (by rfl))
                    · rfl
                    · (try dsimp only [putT, List.set_cons_zero, List.set_cons_succ]); try exact rfl
                    apply al_stepN
                    · exact op_assign_tmp (by rfl)
                    · rfl
                    · (try dsimp only [putT, List.set_cons_zero, List.set_cons_succ]); try exact rfl
                    apply al_end
                    · (try dsimp only [putT, List.set_cons_zero, List.set_cons_succ]); try exact rfl
                    refine then_normal ?_
                    refine aw_ret ?_
                    refine retPost1 rfl rfl ?_
                    first | exact rfl | (rw [hE, ha0]; rfl) | (rw [hE, ← begins_keyL, hbeg, hL]; first | rfl | simp [hx, TF])
                  · skip
                    (try simp only [decide_eq_true_eq, decide_eq_false_iff_not, beq_iff_eq, beq_eq_false_iff_ne, Bool.not_eq_true', Bool.not_eq_false', bne_iff_ne, ne_eq, Decidable.not_not, bne_eq_false_iff_eq, List.length_map] at hg12)
                    have hL : Go.Op.bytesLess (keyL b) (keyL a) = true := by simpa using hg12
                    apply al_normT
                    · (try dsimp only [putT, List.set_cons_zero, List.set_cons_succ]); try exact rfl
                    refine al_unwanted rfl rfl rfl rfl ?_
                    apply al_normT
                    · (try dsimp only [putT, List.set_cons_zero, List.set_cons_succ]); try exact rfl
                    refine al_unwanted rfl rfl rfl rfl ?_
                    apply al_normT
                    · (try dsimp only [putT, List.set_cons_zero, List.set_cons_succ]); try exact rfl
                    refine al_unwanted rfl rfl rfl rfl ?_
                    apply al_normT
                    · (try dsimp only [putT, List.set_cons_zero, List.set_cons_succ]); try exact rfl
                    apply al_wantedN
                    · rfl
                    · rfl
                    · rfl
                    · exact op_pick_ff (by rfl) (val_const (by rfl))
                    · (try dsimp only [putT, List.set_cons_zero, List.set_cons_succ]); try exact rfl
                    apply al_wantedN
                    · rfl
                    · rfl
                    · rfl
                    · exact op_eqB Try.underlying4 (by rfl) (by rfl)
                    · (try dsimp only [putT, List.set_cons_zero, List.set_cons_succ]); try exact rfl
                    apply al_stepN
                    · exact op_pick_tt (by rfl) (val_tmp (by rfl))
                    · rfl
                    · (try dsimp only [putT, List.set_cons_zero, List.set_cons_succ]); try exact rfl
                    apply al_stepN
                    · exact op_assign_tmp (by rfl)
                    · rfl
                    · (try dsimp only [putT, List.set_cons_zero, List.set_cons_succ]); try exact rfl
                    apply al_end
                    · (try dsimp only [putT, List.set_cons_zero, List.set_cons_succ]); try exact rfl
                    refine then_normal ?_
                    refine aw_ret ?_
                    refine retPost1 rfl rfl ?_
                    first | exact rfl | (rw [hE, ha0]; rfl) | (rw [hE, ← begins_keyL, hbeg, hL]; first | rfl | simp [hx, TF])
                · skip
                  (try simp only [decide_eq_true_eq, decide_eq_false_iff_not, beq_iff_eq, beq_eq_false_iff_ne, Bool.not_eq_true', Bool.not_eq_false', bne_iff_ne, ne_eq, Decidable.not_not, bne_eq_false_iff_eq, List.length_map] at hg11)
                  apply al_normT
                  · (try dsimp only [putT, List.set_cons_zero, List.set_cons_succ]); try exact rfl
                  rw [hsome] at hg11; cases hg11
          · skip
            (try simp only [decide_eq_true_eq, decide_eq_false_iff_not, beq_iff_eq, beq_eq_false_iff_ne, Bool.not_eq_true', Bool.not_eq_false', bne_iff_ne, ne_eq, Decidable.not_not, bne_eq_false_iff_eq, List.length_map] at hg7)
            have hE := pref_out hg7
            apply al_normT
            · (try dsimp only [putT, List.set_cons_zero, List.set_cons_succ]); try exact rfl
            refine al_unwanted rfl rfl rfl rfl ?_
            apply al_normT
            · (try dsimp only [putT, List.set_cons_zero, List.set_cons_succ]); try exact rfl
            refine al_unwanted rfl rfl rfl rfl ?_
            apply al_normT
            · (try dsimp only [putT, List.set_cons_zero, List.set_cons_succ]); try exact rfl
            refine al_unwanted rfl rfl rfl rfl ?_
            apply al_normT
            · (try dsimp only [putT, List.set_cons_zero, List.set_cons_succ]); try exact rfl
            refine al_unwanted rfl rfl rfl rfl ?_
            apply al_normT
            · (try dsimp only [putT, List.set_cons_zero, List.set_cons_succ]); try exact rfl
            apply al_stepN
            · exact op_pick_ff (by rfl) (val_const (by rfl))
            · rfl
            · (try dsimp only [putT, List.set_cons_zero, List.set_cons_succ]); try exact rfl
            apply al_end
            · (try dsimp only [putT, List.set_cons_zero, List.set_cons_succ]); try exact rfl
            refine then_normal ?_
            refine aw_cond rfl (fun h => by cases h) (fun _ => ?_)
            refine aw_exit ?_
            refine then_exit (again_exit (inBlock_here (then_normal ?_)))
            refine aw_seq ?_
            refine aw_region ?_
            apply al_stepN
            · exact op_move_tmp (by rfl)
            · rfl
            · (try dsimp only [putT, List.set_cons_zero, List.set_cons_succ]); try exact rfl
            apply al_stepN
            · exact op_callF Try.func17 (by rfl) (by rfl) (.tmp (by rfl) .nil) (key_ok _ _ _ (LL.d _ _) (by omega))
            · rfl
            · (try dsimp only [putT, List.set_cons_zero, List.set_cons_succ]); try exact rfl
            apply al_stepN
            · exact op_assign_tmp (by rfl)
            · rfl
            · (try dsimp only [putT, List.set_cons_zero, List.set_cons_succ]); try exact rfl
            apply al_end
            · (try dsimp only [putT, List.set_cons_zero, List.set_cons_succ]); try exact rfl
            refine then_normal ?_
            refine aw_seq ?_
            refine aw_region ?_
            apply al_stepN
            · exact op_move_tmp (by rfl)
            · rfl
            · (try dsimp only [putT, List.set_cons_zero, List.set_cons_succ]); try exact rfl
            apply al_stepN
            · exact op_callF Try.func17 (by rfl) (by rfl) (.tmp (by rfl) .nil) (key_ok _ _ _ (LL.d _ _) (by omega))
            · rfl
            · (try dsimp only [putT, List.set_cons_zero, List.set_cons_succ]); try exact rfl
            apply al_stepN
            · exact op_assign_tmp (by rfl)
            · rfl
            · (try dsimp only [putT, List.set_cons_zero, List.set_cons_succ]); try exact rfl
            apply al_end
            · (try dsimp only [putT, List.set_cons_zero, List.set_cons_succ]); try exact rfl
            refine then_normal ?_
            refine aw_seq ?_
            refine aw_region ?_
            apply al_stepN
            · exact op_move_tmp (by rfl)
            · rfl
            · (try dsimp only [putT, List.set_cons_zero, List.set_cons_succ]); try exact rfl
            apply al_stepN
            · exact op_callF Try.func15 (by rfl) (by rfl) (.tmp (by rfl) .nil) (after_ok _ _ (by have := keyL_le a; omega))
            · rfl
            · (try dsimp only [putT, List.set_cons_zero, List.set_cons_succ]); try exact rfl
            apply al_stepN
            · exact op_move_tmp (by rfl)
            · rfl
            · (try dsimp only [putT, List.set_cons_zero, List.set_cons_succ]); try exact rfl
            apply al_stepN
            · exact op_extract (by rfl) (by rfl)
            · rfl
            · (try dsimp only [putT, List.set_cons_zero, List.set_cons_succ]); try exact rfl
            apply al_stepN
            · exact op_extract (by rfl) (by rfl)
            · rfl
            · (try dsimp only [putT, List.set_cons_zero, List.set_cons_succ]); try exact rfl
            apply al_stepN
            · exact op_assign_tmp (by rfl)
            · rfl
            · (try dsimp only [putT, List.set_cons_zero, List.set_cons_succ]); try exact rfl
            apply al_stepN
            · exact op_assign_tmp (by rfl)
            · rfl
            · (try dsimp only [putT, List.set_cons_zero, List.set_cons_succ]); try exact rfl
            apply al_end
            · (try dsimp only [putT, List.set_cons_zero, List.set_cons_succ]); try exact rfl
            refine then_normal ?_
            refine aw_seq ?_
            refine aw_seq ?_
            refine aw_region ?_
            apply al_stepN
            · exact op_move_tmp (by rfl)
            · rfl
            · (try dsimp only [putT, List.set_cons_zero, List.set_cons_succ]); try exact rfl
            apply al_stepN
            · exact op_lenL Try.underlying32 (by first | exact LL.d _ _ | exact LL.own _ _ _ | exact LL.nil _ | assumption)
            · rfl
            · (try dsimp only [putT, List.set_cons_zero, List.set_cons_succ]); try exact rfl
            apply al_stepN
            · exact op_eqI (by rfl) (by rfl)
            · rfl
            · (try dsimp only [putT, List.set_cons_zero, List.set_cons_succ]); try exact rfl
            apply al_end
            · (try dsimp only [putT, List.set_cons_zero, List.set_cons_succ]); try exact rfl
            refine then_normal ?_
            refine aw_cond rfl (fun hc14 => ?_) (fun hc14 => ?_)
            · skip
              (try simp only [decide_eq_true_eq, decide_eq_false_iff_not, beq_iff_eq, beq_eq_false_iff_ne, Bool.not_eq_true', Bool.not_eq_false', bne_iff_ne, ne_eq, Decidable.not_not, bne_eq_false_iff_eq, List.length_map] at hc14)
              have ha0 : a = [] := List.length_eq_zero_iff.1 (by omega)
              have hnone : after (keyL a) = none := by subst ha0; rfl
              refine aw_seq ?_
              refine aw_region ?_
              apply al_stepN
              · exact op_move_tmp (by rfl)
              · rfl
              · (try dsimp only [putT, List.set_cons_zero, List.set_cons_succ]); try exact rfl
              apply al_stepN
              · exact op_not (by rfl)
              · rfl
              · (try dsimp only [putT, List.set_cons_zero, List.set_cons_succ]); try exact rfl
              apply al_stepN
              · exact op_move_tmp (by rfl)
              · rfl
              · (try dsimp only [putT, List.set_cons_zero, List.set_cons_succ]); try exact rfl
              refine al_split 74 rfl (fun hg15 => ?_) (fun hg15 => ?_)
              · skip
                (try simp only [decide_eq_true_eq, decide_eq_false_iff_not, beq_iff_eq, beq_eq_false_iff_ne, Bool.not_eq_true', Bool.not_eq_false', bne_iff_ne, ne_eq, Decidable.not_not, bne_eq_false_iff_eq, List.length_map] at hg15)
                apply al_normT
                · (try dsimp only [putT, List.set_cons_zero, List.set_cons_succ]); try exact rfl
                apply al_wantedN
                · rfl
                · rfl
                · rfl
                · exact op_move_tmp (by rfl)
                · (try dsimp only [putT, List.set_cons_zero, List.set_cons_succ]); try exact rfl
                apply al_stepN
                · exact op_pick_tt (by rfl) (val_tmp (by rfl))
                · rfl
                · (try dsimp only [putT, List.set_cons_zero, List.set_cons_succ]); try exact rfl
                apply al_stepN
                · exact op_assign_tmp (by rfl)
                · rfl
                · (try dsimp only [putT, List.set_cons_zero, List.set_cons_succ]); try exact rfl
                apply al_end
                · (try dsimp only [putT, List.set_cons_zero, List.set_cons_succ]); try exact rfl
                refine then_normal ?_
                refine aw_ret ?_
                refine then_ret ?_
                refine retPost1 rfl rfl ?_
                first | exact rfl | (rw [hE, ha0]; rfl) | (rw [hE, ← begins_keyL, hbeg, hL]; first | rfl | simp [hx, TF])
              · skip
                (try simp only [decide_eq_true_eq, decide_eq_false_iff_not, beq_iff_eq, beq_eq_false_iff_ne, Bool.not_eq_true', Bool.not_eq_false', bne_iff_ne, ne_eq, Decidable.not_not, bne_eq_false_iff_eq, List.length_map] at hg15)
                apply al_normT
                · (try dsimp only [putT, List.set_cons_zero, List.set_cons_succ]); try exact rfl
                simp [hnone] at hg15
            · skip
              (try simp only [decide_eq_true_eq, decide_eq_false_iff_not, beq_iff_eq, beq_eq_false_iff_ne, Bool.not_eq_true', Bool.not_eq_false', bne_iff_ne, ne_eq, Decidable.not_not, bne_eq_false_iff_eq, List.length_map] at hc14)
              have hsome : (aft (keyL a)).isSome = true := by rw [aft_keyL]; cases a with | nil => exact absurd rfl hc14 | cons x xs => rfl
              obtain ⟨z, hx⟩ := Option.isSome_iff_exists.1 hsome
              have hbeg := aft_begins hx (keyL b)
              rw [← after_eq] at hsome hx
              refine aw_skip ?_
              refine then_normal ?_
              refine aw_seq ?_
              refine aw_region ?_
              apply al_stepN
              · exact op_move_tmp (by rfl)
              · rfl
              · (try dsimp only [putT, List.set_cons_zero, List.set_cons_succ]); try exact rfl
              apply al_stepN
              · exact op_move_tmp (by rfl)
              · rfl
              · (try dsimp only [putT, List.set_cons_zero, List.set_cons_succ]); try exact rfl
              refine al_split 78 rfl (fun hg16 => ?_) (fun hg16 => ?_)
              · skip
                (try simp only [decide_eq_true_eq, decide_eq_false_iff_not, beq_iff_eq, beq_eq_false_iff_ne, Bool.not_eq_true', Bool.not_eq_false', bne_iff_ne, ne_eq, Decidable.not_not, bne_eq_false_iff_eq, List.length_map] at hg16)
                apply al_normT
                · (try dsimp only [putT, List.set_cons_zero, List.set_cons_succ]); try exact rfl
                apply al_wantedN
                · rfl
                · rfl
                · rfl
                · exact op_move_tmp (by rfl)
                · (try dsimp only [putT, List.set_cons_zero, List.set_cons_succ]); try exact rfl
                apply al_wantedN
                · rfl
                · rfl
                · rfl
                · exact op_move_tmp (by rfl)
                · (try dsimp only [putT, List.set_cons_zero, List.set_cons_succ]); try exact rfl
                apply al_wantedN
                · rfl
                · rfl
                · rfl
                · exact op_move_tmp (by rfl)
                · (try dsimp only [putT, List.set_cons_zero, List.set_cons_succ]); try exact rfl
                apply al_wantedN
                · rfl
                · rfl
                · rfl
                · exact op_geS (by rfl) (by rfl)
                · (try dsimp only [putT, List.set_cons_zero, List.set_cons_succ]); try exact rfl
                apply al_wantedN
                · rfl
                · rfl
                · rfl
                · exact op_move_tmp (by rfl)
                · (try dsimp only [putT, List.set_cons_zero, List.set_cons_succ]); try exact rfl
                refine al_split 83 rfl (fun hg17 => ?_) (fun hg17 => ?_)
                · skip
                  (try simp only [decide_eq_true_eq, decide_eq_false_iff_not, beq_iff_eq, beq_eq_false_iff_ne, Bool.not_eq_true', Bool.not_eq_false', bne_iff_ne, ne_eq, Decidable.not_not, bne_eq_false_iff_eq, List.length_map] at hg17)
                  have hL : Go.Op.bytesLess (keyL b) (keyL a) = false := by simpa using hg17
                  apply al_normT
                  · (try dsimp only [putT, List.set_cons_zero, List.set_cons_succ]); try exact rfl
                  apply al_wantedN
                  · rfl
                  · rfl
                  · rfl
                  · exact op_move_tmp (by rfl)
                  · (try dsimp only [putT, List.set_cons_zero, List.set_cons_succ]); try exact rfl
                  apply al_wantedN
                  · rfl
                  · rfl
                  · rfl
                  · exact op_move_tmp (by rfl)
                  · (try dsimp only [putT, List.set_cons_zero, List.set_cons_succ]); try exact rfl
                  apply al_wantedN
                  · rfl
                  · rfl
                  · rfl
                  · exact op_ltS (by rfl) (by rfl)
                  · (try dsimp only [putT, List.set_cons_zero, List.set_cons_succ]); try exact rfl
                  apply al_wantedN
                  · rfl
                  · rfl
                  · rfl
                  · exact op_pick_tt (by rfl) (val_tmp (by rfl))
                  · (try dsimp only [putT, List.set_cons_zero, List.set_cons_succ]); try exact rfl
                  apply al_wantedN
                  · rfl
                  · rfl
                  · rfl
                  · exact op_eqB Try.underlying4 (by rfl) (by rfl)
                  · (try dsimp only [putT, List.set_cons_zero, List.set_cons_succ]); try exact rfl
                  apply al_stepN
                  · exact op_pick_tt (by rfl) (val_tmp (by rfl))
                  · rfl
                  · (try dsimp only [putT, List.set_cons_zero, List.set_cons_succ]); try exact rfl
                  apply al_stepN
                  · exact op_assign_tmp (by rfl)
                  · rfl
                  · (try dsimp only [putT, List.set_cons_zero, List.set_cons_succ]); try exact rfl
                  apply al_end
                  · (try dsimp only [putT, List.set_cons_zero, List.set_cons_succ]); try exact rfl
                  refine then_normal ?_
                  refine aw_ret ?_
                  refine retPost1 rfl rfl ?_
                  first | exact rfl | (rw [hE, ha0]; rfl) | (rw [hE, ← begins_keyL, hbeg, hL]; first | rfl | simp [hx, TF])
                · skip
                  (try simp only [decide_eq_true_eq, decide_eq_false_iff_not, beq_iff_eq, beq_eq_false_iff_ne, Bool.not_eq_true', Bool.not_eq_false', bne_iff_ne, ne_eq, Decidable.not_not, bne_eq_false_iff_eq, List.length_map] at hg17)
                  have hL : Go.Op.bytesLess (keyL b) (keyL a) = true := by simpa using hg17
                  apply al_normT
                  · (try dsimp only [putT, List.set_cons_zero, List.set_cons_succ]); try exact rfl
                  refine al_unwanted rfl rfl rfl rfl ?_
                  apply al_normT
                  · (try dsimp only [putT, List.set_cons_zero, List.set_cons_succ]); try exact rfl
                  refine al_unwanted rfl rfl rfl rfl ?_
                  apply al_normT
                  · (try dsimp only [putT, List.set_cons_zero, List.set_cons_succ]); try exact rfl
                  refine al_unwanted rfl rfl rfl rfl ?_
                  apply al_normT
                  · (try dsimp only [putT, List.set_cons_zero, List.set_cons_succ]); try exact rfl
                  apply al_wantedN
                  · rfl
                  · rfl
                  · rfl
                  · exact op_pick_ff (by rfl) (val_const (by rfl))
                  · (try dsimp only [putT, List.set_cons_zero, List.set_cons_succ]); try exact rfl
                  apply al_wantedN
                  · rfl
                  · rfl
                  · rfl
                  · exact op_eqB Try.underlying4 (by rfl) (by rfl)
                  · (try dsimp only [putT, List.set_cons_zero, List.set_cons_succ]); try exact rfl
                  apply al_stepN
                  · exact op_pick_tt (by rfl) (val_tmp (by rfl))
                  · rfl
                  · (try dsimp only [putT, List.set_cons_zero, List.set_cons_succ]); try exact rfl
                  apply al_stepN
                  · exact op_assign_tmp (by rfl)
                  · rfl
                  · (try dsimp only [putT, List.set_cons_zero, List.set_cons_succ]); try exact rfl
                  apply al_end
                  · (try dsimp only [putT, List.set_cons_zero, List.set_cons_succ]); try exact rfl
                  refine then_normal ?_
                  refine aw_ret ?_
                  refine retPost1 rfl rfl ?_
                  first | exact rfl | (rw [hE, ha0]; rfl) | (rw [hE, ← begins_keyL, hbeg, hL]; first | rfl | simp [hx, TF])
              · skip
                (try simp only [decide_eq_true_eq, decide_eq_false_iff_not, beq_iff_eq, beq_eq_false_iff_ne, Bool.not_eq_true', Bool.not_eq_false', bne_iff_ne, ne_eq, Decidable.not_not, bne_eq_false_iff_eq, List.length_map] at hg16)
                apply al_normT
                · (try dsimp only [putT, List.set_cons_zero, List.set_cons_succ]); try exact rfl
                rw [hsome] at hg16; cases hg16
end Go.Proofs.Ytlphmahlchgafaa
