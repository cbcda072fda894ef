/- What the law OrdCuts comes to. -/
import Derived.Test.YtlphmahlchgafaaOrdW
import Derived.Test.YtlphmahlchgafaaCutW
import Derived.Test.YtlphmahlchgafaaOrdPlain5
import Derived.KernelRfl
namespace Go.Proofs.Ytlphmahlchgafaa
open Go.AV Go.AV.Ord
set_option linter.unusedVariables false
set_option linter.unusedSimpArgs false
set_option maxRecDepth 100000 in
theorem ordCuts_walk (Hs : HS) (k : List UInt8) : ACalls Try.prog 9 [.d (S k)] Hs (fun av _ => av = .d (TF true)) := by
  refine acalls_of_aw Try.func9 rfl ?_
  refine aw_start (T' := ((.d (S k)) :: .un :: .un :: .un :: .un :: .un :: .un :: .un :: .un :: .un :: .un :: .un :: .un :: .un :: .un :: .un :: .un :: .un :: .un :: .un :: .un :: .un :: .un :: .un :: .un :: .un :: .un :: .un :: .un :: .un :: .un :: .un :: .un :: .un :: .un :: .un :: .un :: .un :: .un :: .un :: .un :: .un :: .un :: .un :: .un :: .un :: .un :: .un :: .un :: .un :: .un :: .un :: .un :: .un :: .un :: .un :: .un :: .un :: .un :: .un :: .un :: .un :: .un :: .un :: .un :: .un :: .un :: .un :: .un :: .un :: .un :: .un :: .un :: .un :: .un :: .un :: .un :: .un :: .un :: .un :: .un :: .un :: .un :: .un :: .un :: .un :: .un :: .un :: .un :: .un :: .un :: .un :: .un :: .un :: .un :: .un :: .un :: .un :: .un :: .un :: .un :: .un :: .un :: .un :: .un :: .un :: .un :: [])) rfl ?_
  refine aw_seq ?_
  refine aw_region ?_
  apply al_stepN
  · exact op_assign_const (by rfl)
  · rfl
  · (try dsimp only [putT, List.set_cons_zero, List.set_cons_succ]); try exact rfl
  apply al_end
  · (try dsimp only [putT, List.set_cons_zero, List.set_cons_succ]); try exact rfl
  refine then_normal ?_
  refine aw_seq ?_
  refine aw_seq ?_
  refine aw_region ?_
  apply al_stepN
  · exact op_callF Try.func11 (by rfl) (by rfl) .nil (head_ok _)
  · rfl
  · (try dsimp only [putT, List.set_cons_zero, List.set_cons_succ]); try exact rfl
  apply al_stepN
  · exact op_not (by rfl)
  · rfl
  · (try dsimp only [putT, List.set_cons_zero, List.set_cons_succ]); try exact rfl
  apply al_end
  · (try dsimp only [putT, List.set_cons_zero, List.set_cons_succ]); try exact rfl
  refine then_normal ?_
  refine aw_cond rfl (fun hc1 => ?_) (fun hc1 => ?_)
  · skip
    (try simp only [decide_eq_true_eq, decide_eq_false_iff_not, beq_iff_eq, beq_eq_false_iff_ne, Bool.not_eq_true', Bool.not_eq_false', bne_iff_ne, ne_eq, Decidable.not_not, bne_eq_false_iff_eq, List.length_map] at hc1)
    exact absurd hc1 (by decide)
  · skip
    (try simp only [decide_eq_true_eq, decide_eq_false_iff_not, beq_iff_eq, beq_eq_false_iff_ne, Bool.not_eq_true', Bool.not_eq_false', bne_iff_ne, ne_eq, Decidable.not_not, bne_eq_false_iff_eq, List.length_map] at hc1)
    refine aw_skip ?_
    refine then_normal ?_
    refine aw_seq ?_
    refine aw_seq ?_
    refine aw_region ?_
    apply al_stepN
    · exact op_move_tmp (by rfl)
    · rfl
    · (try dsimp only [putT, List.set_cons_zero, List.set_cons_succ]); try exact rfl
    apply al_stepN
    · exact op_lenS Try.underlying9 (by rfl)
    · rfl
    · (try dsimp only [putT, List.set_cons_zero, List.set_cons_succ]); try exact rfl
    apply al_stepN
    · exact op_gtI (by rfl) (by rfl)
    · rfl
    · (try dsimp only [putT, List.set_cons_zero, List.set_cons_succ]); try exact rfl
    apply al_end
    · (try dsimp only [putT, List.set_cons_zero, List.set_cons_succ]); try exact rfl
    refine then_normal ?_
    refine aw_cond rfl (fun hc2 => ?_) (fun hc2 => ?_)
    · skip
      (try simp only [decide_eq_true_eq, decide_eq_false_iff_not, beq_iff_eq, beq_eq_false_iff_ne, Bool.not_eq_true', Bool.not_eq_false', bne_iff_ne, ne_eq, Decidable.not_not, bne_eq_false_iff_eq, List.length_map] at hc2)
      refine aw_seq ?_
      refine aw_region ?_
      apply al_stepN
      · exact op_assign_const (by rfl)
      · rfl
      · (try dsimp only [putT, List.set_cons_zero, List.set_cons_succ]); try exact rfl
      apply al_end
      · (try dsimp only [putT, List.set_cons_zero, List.set_cons_succ]); try exact rfl
      refine then_normal ?_
      refine aw_ret ?_
      refine then_ret ?_
      refine retPost1 rfl rfl ?_
      first | exact rfl | (simp [partsA, hpn, TF]; done) | (simp [hpb, TF]; done)
    · skip
      (try simp only [decide_eq_true_eq, decide_eq_false_iff_not, beq_iff_eq, beq_eq_false_iff_ne, Bool.not_eq_true', Bool.not_eq_false', bne_iff_ne, ne_eq, Decidable.not_not, bne_eq_false_iff_eq, List.length_map] at hc2)
      refine aw_skip ?_
      refine then_normal ?_
      refine aw_seq ?_
      refine aw_region ?_
      apply al_stepN
      · exact op_move_tmp (by rfl)
      · rfl
      · (try dsimp only [putT, List.set_cons_zero, List.set_cons_succ]); try exact rfl
      apply al_stepN
      · exact op_callF Try.func21 (by rfl) (by rfl) (.tmp (by rfl) .nil) (cut_ok _ k (by omega))
      · rfl
      · (try dsimp only [putT, List.set_cons_zero, List.set_cons_succ]); try exact rfl
      apply al_stepN
      · exact op_move_tmp (by rfl)
      · rfl
      · (try dsimp only [putT, List.set_cons_zero, List.set_cons_succ]); try exact rfl
      apply al_stepN
      · exact op_extract (by rfl) (by rfl)
      · rfl
      · (try dsimp only [putT, List.set_cons_zero, List.set_cons_succ]); try exact rfl
      apply al_stepN
      · exact op_extract (by rfl) (by rfl)
      · rfl
      · (try dsimp only [putT, List.set_cons_zero, List.set_cons_succ]); try exact rfl
      apply al_stepN
      · exact op_extract (by rfl) (by rfl)
      · rfl
      · (try dsimp only [putT, List.set_cons_zero, List.set_cons_succ]); try exact rfl
      apply al_stepN
      · exact op_assign_tmp (by rfl)
      · rfl
      · (try dsimp only [putT, List.set_cons_zero, List.set_cons_succ]); try exact rfl
      apply al_stepN
      · exact op_assign_tmp (by rfl)
      · rfl
      · (try dsimp only [putT, List.set_cons_zero, List.set_cons_succ]); try exact rfl
      apply al_stepN
      · exact op_assign_tmp (by rfl)
      · rfl
      · (try dsimp only [putT, List.set_cons_zero, List.set_cons_succ]); try exact rfl
      apply al_end
      · (try dsimp only [putT, List.set_cons_zero, List.set_cons_succ]); try exact rfl
      refine then_normal ?_
      apply aw_cutF (fun T H => ∃ (u : Unit), T = ((.d (S k)) :: .un :: .un :: .un :: .un :: (.d (TF (cutB k))) :: .un :: .un :: .un :: .un :: .un :: .un :: .un :: .un :: .un :: .un :: .un :: .un :: .un :: .un :: .un :: .un :: .un :: .un :: .un :: .un :: .un :: .un :: .un :: .un :: .un :: .un :: .un :: .un :: .un :: .un :: .un :: .un :: .un :: .un :: .un :: .un :: .un :: .un :: .un :: .un :: .un :: .un :: .un :: .un :: .un :: .un :: .un :: .un :: .un :: .un :: .un :: .un :: .un :: .un :: .un :: .un :: .un :: .un :: .un :: .un :: .un :: .un :: .un :: .un :: .un :: .un :: .un :: .un :: .un :: .un :: .un :: .un :: .un :: .un :: .un :: .un :: .un :: .un :: .un :: .un :: .un :: .un :: .un :: .un :: .un :: .un :: .un :: .un :: .un :: .un :: .un :: .un :: .un :: .un :: .un :: .un :: .un :: .un :: .un :: .un :: .un :: []) ∧ True)
      · skip
        refine aw_seq ?_
        refine aw_region ?_
        apply al_stepN
        · exact op_move_tmp (by rfl)
        · rfl
        · (try dsimp only [putT, List.set_cons_zero, List.set_cons_succ]); try exact rfl
        apply al_stepN
        · exact op_move_tmp (by rfl)
        · rfl
        · (try dsimp only [putT, List.set_cons_zero, List.set_cons_succ]); try exact rfl
        refine al_split 23 rfl (fun hg3 => ?_) (fun hg3 => ?_)
        · skip
          (try simp only [decide_eq_true_eq, decide_eq_false_iff_not, beq_iff_eq, beq_eq_false_iff_ne, Bool.not_eq_true', Bool.not_eq_false', bne_iff_ne, ne_eq, Decidable.not_not, bne_eq_false_iff_eq, List.length_map] at hg3)
          have hT : cutB k = true := hg3
          have hcs := cut_some hT
          have hk := cutL_iff.1 hcs
          have hlen := congrArg List.length hk
          have hel := encT_len (cut1 k)
          have hel2 := enc0_len (cut1 k)
          simp only [List.length_append] at hlen
          apply al_normT
          · (try dsimp only [putT, List.set_cons_zero, List.set_cons_succ]); try exact rfl
          apply al_wantedN
          · rfl
          · rfl
          · rfl
          · exact op_move_tmp (by rfl)
          · (try dsimp only [putT, List.set_cons_zero, List.set_cons_succ]); try exact rfl
          apply al_wantedN
          · rfl
          · rfl
          · rfl
          · exact op_callF Try.func12 (by rfl) (by rfl) (.const (by rfl) (.tmp (by rfl) .nil)) (text_ok _ none _ [] (cut1 k) (App.nil _) (HS.ok_none _ _) (by simp; omega))
          · (try dsimp only [putT, List.set_cons_zero, List.set_cons_succ]); try exact rfl
          apply al_wantedN
          · rfl
          · rfl
          · rfl
          · exact op_string Try.underlying22 Try.underlying9 Try.underlying5 (LL.own _ _ _) (by rfl)
          · (try dsimp only [putT, List.set_cons_zero, List.set_cons_succ]); try exact rfl
          apply al_wantedN
          · rfl
          · rfl
          · rfl
          · exact op_move_tmp (by rfl)
          · (try dsimp only [putT, List.set_cons_zero, List.set_cons_succ]); try exact rfl
          apply al_wantedN
          · rfl
          · rfl
          · rfl
          · exact op_addS (by rfl) (by rfl) (by simp; omega)
          · (try dsimp only [putT, List.set_cons_zero, List.set_cons_succ]); try exact rfl
          apply al_wantedN
          · rfl
          · rfl
          · rfl
          · exact op_move_tmp (by rfl)
          · (try dsimp only [putT, List.set_cons_zero, List.set_cons_succ]); try exact rfl
          apply al_wantedN
          · rfl
          · rfl
          · rfl
          · exact op_neS (by rfl) (by rfl)
          · (try dsimp only [putT, List.set_cons_zero, List.set_cons_succ]); try exact rfl
          apply al_stepN
          · exact op_pick_tt (by rfl) (val_tmp (by rfl))
          · rfl
          · (try dsimp only [putT, List.set_cons_zero, List.set_cons_succ]); try exact rfl
          apply al_stepN
          · exact op_move_tmp (by rfl)
          · rfl
          · (try dsimp only [putT, List.set_cons_zero, List.set_cons_succ]); try exact rfl
          refine al_split 32 rfl (fun hg4 => ?_) (fun hg4 => ?_)
          · skip
            (try simp only [decide_eq_true_eq, decide_eq_false_iff_not, beq_iff_eq, beq_eq_false_iff_ne, Bool.not_eq_true', Bool.not_eq_false', bne_iff_ne, ne_eq, Decidable.not_not, bne_eq_false_iff_eq, List.length_map] at hg4)
            apply al_normT
            · (try dsimp only [putT, List.set_cons_zero, List.set_cons_succ]); try exact rfl
            exact absurd (by simpa using hk.symm) hg4
          · skip
            (try simp only [decide_eq_true_eq, decide_eq_false_iff_not, beq_iff_eq, beq_eq_false_iff_ne, Bool.not_eq_true', Bool.not_eq_false', bne_iff_ne, ne_eq, Decidable.not_not, bne_eq_false_iff_eq, List.length_map] at hg4)
            apply al_normT
            · (try dsimp only [putT, List.set_cons_zero, List.set_cons_succ]); try exact rfl
            apply al_wantedN
            · rfl
            · rfl
            · rfl
            · exact op_move_tmp (by rfl)
            · (try dsimp only [putT, List.set_cons_zero, List.set_cons_succ]); try exact rfl
            apply al_wantedN
            · rfl
            · rfl
            · rfl
            · exact op_not (by rfl)
            · (try dsimp only [putT, List.set_cons_zero, List.set_cons_succ]); try exact rfl
            apply al_wantedN
            · rfl
            · rfl
            · rfl
            · exact op_move_tmp (by rfl)
            · (try dsimp only [putT, List.set_cons_zero, List.set_cons_succ]); try exact rfl
            refine al_split 35 rfl (fun hg5 => ?_) (fun hg5 => ?_)
            · skip
              (try simp only [decide_eq_true_eq, decide_eq_false_iff_not, beq_iff_eq, beq_eq_false_iff_ne, Bool.not_eq_true', Bool.not_eq_false', bne_iff_ne, ne_eq, Decidable.not_not, bne_eq_false_iff_eq, List.length_map] at hg5)
              have hF : cutB k = false := hg5
              apply al_normT
              · (try dsimp only [putT, List.set_cons_zero, List.set_cons_succ]); try exact rfl
              apply al_wantedN
              · rfl
              · rfl
              · rfl
              · exact op_move_tmp (by rfl)
              · (try dsimp only [putT, List.set_cons_zero, List.set_cons_succ]); try exact rfl
              apply al_wantedN
              · rfl
              · rfl
              · rfl
              · exact op_neS (by rfl) (by rfl)
              · (try dsimp only [putT, List.set_cons_zero, List.set_cons_succ]); try exact rfl
              apply al_wantedN
              · rfl
              · rfl
              · rfl
              · exact op_move_tmp (by rfl)
              · (try dsimp only [putT, List.set_cons_zero, List.set_cons_succ]); try exact rfl
              refine al_split 38 rfl (fun hg6 => ?_) (fun hg6 => ?_)
              · skip
                (try simp only [decide_eq_true_eq, decide_eq_false_iff_not, beq_iff_eq, beq_eq_false_iff_ne, Bool.not_eq_true', Bool.not_eq_false', bne_iff_ne, ne_eq, Decidable.not_not, bne_eq_false_iff_eq, List.length_map] at hg6)
                apply al_normT
                · (try dsimp only [putT, List.set_cons_zero, List.set_cons_succ]); try exact rfl
                first | (rw [hT] at hF; cases hF) | exact absurd (by simp [cut1, hcn]) hg6
              · skip
                (try simp only [decide_eq_true_eq, decide_eq_false_iff_not, beq_iff_eq, beq_eq_false_iff_ne, Bool.not_eq_true', Bool.not_eq_false', bne_iff_ne, ne_eq, Decidable.not_not, bne_eq_false_iff_eq, List.length_map] at hg6)
                apply al_normT
                · (try dsimp only [putT, List.set_cons_zero, List.set_cons_succ]); try exact rfl
                apply al_wantedN
                · rfl
                · rfl
                · rfl
                · exact op_move_tmp (by rfl)
                · (try dsimp only [putT, List.set_cons_zero, List.set_cons_succ]); try exact rfl
                apply al_wantedN
                · rfl
                · rfl
                · rfl
                · exact op_neS (by rfl) (by rfl)
                · (try dsimp only [putT, List.set_cons_zero, List.set_cons_succ]); try exact rfl
                apply al_wantedN
                · rfl
                · rfl
                · rfl
                · exact op_pick_ff (by rfl) (val_tmp (by rfl))
                · (try dsimp only [putT, List.set_cons_zero, List.set_cons_succ]); try exact rfl
                apply al_wantedN
                · rfl
                · rfl
                · rfl
                · exact op_pick_tt (by rfl) (val_tmp (by rfl))
                · (try dsimp only [putT, List.set_cons_zero, List.set_cons_succ]); try exact rfl
                apply al_stepN
                · exact op_pick_ff (by rfl) (val_tmp (by rfl))
                · rfl
                · (try dsimp only [putT, List.set_cons_zero, List.set_cons_succ]); try exact rfl
                apply al_end
                · (try dsimp only [putT, List.set_cons_zero, List.set_cons_succ]); try exact rfl
                refine then_normal ?_
                refine aw_cond rfl (fun hc7 => ?_) (fun hc7 => ?_)
                · skip
                  (try simp only [decide_eq_true_eq, decide_eq_false_iff_not, beq_iff_eq, beq_eq_false_iff_ne, Bool.not_eq_true', Bool.not_eq_false', bne_iff_ne, ne_eq, Decidable.not_not, bne_eq_false_iff_eq, List.length_map] at hc7)
                  first | (rw [hT] at hF; cases hF) | exact absurd (by simp [cut2, hcn]) hc7
                · skip
                  (try simp only [decide_eq_true_eq, decide_eq_false_iff_not, beq_iff_eq, beq_eq_false_iff_ne, Bool.not_eq_true', Bool.not_eq_false', bne_iff_ne, ne_eq, Decidable.not_not, bne_eq_false_iff_eq, List.length_map] at hc7)
                  refine aw_skip ?_
                  apply cut_to (true :: false :: false :: false :: false :: true :: false :: false :: false :: false :: false :: false :: false :: false :: false :: false :: false :: false :: false :: false :: false :: false :: false :: false :: false :: false :: false :: false :: false :: false :: false :: false :: false :: false :: false :: false :: false :: false :: false :: false :: false :: false :: false :: false :: false :: false :: false :: false :: false :: false :: false :: false :: false :: false :: false :: false :: false :: false :: false :: false :: false :: false :: false :: false :: false :: false :: false :: false :: false :: false :: false :: false :: false :: false :: false :: false :: false :: false :: false :: false :: false :: false :: false :: false :: false :: false :: false :: false :: false :: false :: false :: false :: false :: false :: false :: false :: false :: false :: false :: false :: false :: false :: false :: false :: false :: false :: false :: [])
                  · (try dsimp only [maskT]); try exact rfl
                  · rfl
                  exact ⟨(), rfl, trivial⟩
            · skip
              (try simp only [decide_eq_true_eq, decide_eq_false_iff_not, beq_iff_eq, beq_eq_false_iff_ne, Bool.not_eq_true', Bool.not_eq_false', bne_iff_ne, ne_eq, Decidable.not_not, bne_eq_false_iff_eq, List.length_map] at hg5)
              apply al_normT
              · (try dsimp only [putT, List.set_cons_zero, List.set_cons_succ]); try exact rfl
              refine al_unwanted rfl rfl rfl rfl ?_
              apply al_normT
              · (try dsimp only [putT, List.set_cons_zero, List.set_cons_succ]); try exact rfl
              refine al_unwanted rfl rfl rfl rfl ?_
              apply al_normT
              · (try dsimp only [putT, List.set_cons_zero, List.set_cons_succ]); try exact rfl
              refine al_unwanted rfl rfl rfl rfl ?_
              apply al_normT
              · (try dsimp only [putT, List.set_cons_zero, List.set_cons_succ]); try exact rfl
              refine al_unwanted0 rfl rfl rfl ?_
              apply al_normT
              · (try dsimp only [putT, List.set_cons_zero, List.set_cons_succ]); try exact rfl
              refine al_unwanted0 rfl rfl rfl ?_
              apply al_normT
              · (try dsimp only [putT, List.set_cons_zero, List.set_cons_succ]); try exact rfl
              refine al_unwanted rfl rfl rfl rfl ?_
              apply al_normT
              · (try dsimp only [putT, List.set_cons_zero, List.set_cons_succ]); try exact rfl
              apply al_wantedN
              · rfl
              · rfl
              · rfl
              · exact op_pick_ff (by rfl) (val_const (by rfl))
              · (try dsimp only [putT, List.set_cons_zero, List.set_cons_succ]); try exact rfl
              apply al_stepN
              · exact op_pick_ff (by rfl) (val_tmp (by rfl))
              · rfl
              · (try dsimp only [putT, List.set_cons_zero, List.set_cons_succ]); try exact rfl
              apply al_end
              · (try dsimp only [putT, List.set_cons_zero, List.set_cons_succ]); try exact rfl
              refine then_normal ?_
              refine aw_cond rfl (fun h => by cases h) (fun _ => ?_)
              refine aw_skip ?_
              apply cut_to (true :: false :: false :: false :: false :: true :: false :: false :: false :: false :: false :: false :: false :: false :: false :: false :: false :: false :: false :: false :: false :: false :: false :: false :: false :: false :: false :: false :: false :: false :: false :: false :: false :: false :: false :: false :: false :: false :: false :: false :: false :: false :: false :: false :: false :: false :: false :: false :: false :: false :: false :: false :: false :: false :: false :: false :: false :: false :: false :: false :: false :: false :: false :: false :: false :: false :: false :: false :: false :: false :: false :: false :: false :: false :: false :: false :: false :: false :: false :: false :: false :: false :: false :: false :: false :: false :: false :: false :: false :: false :: false :: false :: false :: false :: false :: false :: false :: false :: false :: false :: false :: false :: false :: false :: false :: false :: false :: [])
              · (try dsimp only [maskT]); try exact rfl
              · rfl
              exact ⟨(), rfl, trivial⟩
        · skip
          (try simp only [decide_eq_true_eq, decide_eq_false_iff_not, beq_iff_eq, beq_eq_false_iff_ne, Bool.not_eq_true', Bool.not_eq_false', bne_iff_ne, ne_eq, Decidable.not_not, bne_eq_false_iff_eq, List.length_map] at hg3)
          have hcn := cut_none hg3
          apply al_normT
          · (try dsimp only [putT, List.set_cons_zero, List.set_cons_succ]); try exact rfl
          refine al_unwanted rfl rfl rfl rfl ?_
          apply al_normT
          · (try dsimp only [putT, List.set_cons_zero, List.set_cons_succ]); try exact rfl
          refine al_unwanted rfl rfl rfl rfl ?_
          apply al_normT
          · (try dsimp only [putT, List.set_cons_zero, List.set_cons_succ]); try exact rfl
          refine al_unwanted rfl rfl rfl rfl ?_
          apply al_normT
          · (try dsimp only [putT, List.set_cons_zero, List.set_cons_succ]); try exact rfl
          refine al_unwanted rfl rfl rfl rfl ?_
          apply al_normT
          · (try dsimp only [putT, List.set_cons_zero, List.set_cons_succ]); try exact rfl
          refine al_unwanted rfl rfl rfl rfl ?_
          apply al_normT
          · (try dsimp only [putT, List.set_cons_zero, List.set_cons_succ]); try exact rfl
          refine al_unwanted rfl rfl rfl rfl ?_
          apply al_normT
          · (try dsimp only [putT, List.set_cons_zero, List.set_cons_succ]); try exact rfl
          refine al_unwanted rfl rfl rfl rfl ?_
          apply al_normT
          · (try dsimp only [putT, List.set_cons_zero, List.set_cons_succ]); try exact rfl
          apply al_stepN
          · exact op_pick_ff (by rfl) (val_const (by rfl))
          · rfl
          · (try dsimp only [putT, List.set_cons_zero, List.set_cons_succ]); try exact rfl
          apply al_stepN
          · exact op_move_tmp (by rfl)
          · rfl
          · (try dsimp only [putT, List.set_cons_zero, List.set_cons_succ]); try exact rfl
          apply al_wantedN
          · rfl
          · rfl
          · rfl
          · exact op_move_tmp (by rfl)
          · (try dsimp only [putT, List.set_cons_zero, List.set_cons_succ]); try exact rfl
          apply al_wantedN
          · rfl
          · rfl
          · rfl
          · exact op_not (by rfl)
          · (try dsimp only [putT, List.set_cons_zero, List.set_cons_succ]); try exact rfl
          apply al_wantedN
          · rfl
          · rfl
          · rfl
          · exact op_move_tmp (by rfl)
          · (try dsimp only [putT, List.set_cons_zero, List.set_cons_succ]); try exact rfl
          refine al_split 35 rfl (fun hg9 => ?_) (fun hg9 => ?_)
          · skip
            (try simp only [decide_eq_true_eq, decide_eq_false_iff_not, beq_iff_eq, beq_eq_false_iff_ne, Bool.not_eq_true', Bool.not_eq_false', bne_iff_ne, ne_eq, Decidable.not_not, bne_eq_false_iff_eq, List.length_map] at hg9)
            have hF : cutB k = false := hg9
            apply al_normT
            · (try dsimp only [putT, List.set_cons_zero, List.set_cons_succ]); try exact rfl
            apply al_wantedN
            · rfl
            · rfl
            · rfl
            · exact op_move_tmp (by rfl)
            · (try dsimp only [putT, List.set_cons_zero, List.set_cons_succ]); try exact rfl
            apply al_wantedN
            · rfl
            · rfl
            · rfl
            · exact op_neS (by rfl) (by rfl)
            · (try dsimp only [putT, List.set_cons_zero, List.set_cons_succ]); try exact rfl
            apply al_wantedN
            · rfl
            · rfl
            · rfl
            · exact op_move_tmp (by rfl)
            · (try dsimp only [putT, List.set_cons_zero, List.set_cons_succ]); try exact rfl
            refine al_split 38 rfl (fun hg10 => ?_) (fun hg10 => ?_)
            · skip
              (try simp only [decide_eq_true_eq, decide_eq_false_iff_not, beq_iff_eq, beq_eq_false_iff_ne, Bool.not_eq_true', Bool.not_eq_false', bne_iff_ne, ne_eq, Decidable.not_not, bne_eq_false_iff_eq, List.length_map] at hg10)
              apply al_normT
              · (try dsimp only [putT, List.set_cons_zero, List.set_cons_succ]); try exact rfl
              first | (rw [hT] at hF; cases hF) | exact absurd (by simp [cut1, hcn]) hg10
            · skip
              (try simp only [decide_eq_true_eq, decide_eq_false_iff_not, beq_iff_eq, beq_eq_false_iff_ne, Bool.not_eq_true', Bool.not_eq_false', bne_iff_ne, ne_eq, Decidable.not_not, bne_eq_false_iff_eq, List.length_map] at hg10)
              apply al_normT
              · (try dsimp only [putT, List.set_cons_zero, List.set_cons_succ]); try exact rfl
              apply al_wantedN
              · rfl
              · rfl
              · rfl
              · exact op_move_tmp (by rfl)
              · (try dsimp only [putT, List.set_cons_zero, List.set_cons_succ]); try exact rfl
              apply al_wantedN
              · rfl
              · rfl
              · rfl
              · exact op_neS (by rfl) (by rfl)
              · (try dsimp only [putT, List.set_cons_zero, List.set_cons_succ]); try exact rfl
              apply al_wantedN
              · rfl
              · rfl
              · rfl
              · exact op_pick_ff (by rfl) (val_tmp (by rfl))
              · (try dsimp only [putT, List.set_cons_zero, List.set_cons_succ]); try exact rfl
              apply al_wantedN
              · rfl
              · rfl
              · rfl
              · exact op_pick_tt (by rfl) (val_tmp (by rfl))
              · (try dsimp only [putT, List.set_cons_zero, List.set_cons_succ]); try exact rfl
              apply al_stepN
              · exact op_pick_ff (by rfl) (val_tmp (by rfl))
              · rfl
              · (try dsimp only [putT, List.set_cons_zero, List.set_cons_succ]); try exact rfl
              apply al_end
              · (try dsimp only [putT, List.set_cons_zero, List.set_cons_succ]); try exact rfl
              refine then_normal ?_
              refine aw_cond rfl (fun hc11 => ?_) (fun hc11 => ?_)
              · skip
                (try simp only [decide_eq_true_eq, decide_eq_false_iff_not, beq_iff_eq, beq_eq_false_iff_ne, Bool.not_eq_true', Bool.not_eq_false', bne_iff_ne, ne_eq, Decidable.not_not, bne_eq_false_iff_eq, List.length_map] at hc11)
                first | (rw [hT] at hF; cases hF) | exact absurd (by simp [cut2, hcn]) hc11
              · skip
                (try simp only [decide_eq_true_eq, decide_eq_false_iff_not, beq_iff_eq, beq_eq_false_iff_ne, Bool.not_eq_true', Bool.not_eq_false', bne_iff_ne, ne_eq, Decidable.not_not, bne_eq_false_iff_eq, List.length_map] at hc11)
                refine aw_skip ?_
                apply cut_to (true :: false :: false :: false :: false :: true :: false :: false :: false :: false :: false :: false :: false :: false :: false :: false :: false :: false :: false :: false :: false :: false :: false :: false :: false :: false :: false :: false :: false :: false :: false :: false :: false :: false :: false :: false :: false :: false :: false :: false :: false :: false :: false :: false :: false :: false :: false :: false :: false :: false :: false :: false :: false :: false :: false :: false :: false :: false :: false :: false :: false :: false :: false :: false :: false :: false :: false :: false :: false :: false :: false :: false :: false :: false :: false :: false :: false :: false :: false :: false :: false :: false :: false :: false :: false :: false :: false :: false :: false :: false :: false :: false :: false :: false :: false :: false :: false :: false :: false :: false :: false :: false :: false :: false :: false :: false :: false :: [])
                · (try dsimp only [maskT]); try exact rfl
                · rfl
                exact ⟨(), rfl, trivial⟩
          · skip
            (try simp only [decide_eq_true_eq, decide_eq_false_iff_not, beq_iff_eq, beq_eq_false_iff_ne, Bool.not_eq_true', Bool.not_eq_false', bne_iff_ne, ne_eq, Decidable.not_not, bne_eq_false_iff_eq, List.length_map] at hg9)
            apply al_normT
            · (try dsimp only [putT, List.set_cons_zero, List.set_cons_succ]); try exact rfl
            refine al_unwanted rfl rfl rfl rfl ?_
            apply al_normT
            · (try dsimp only [putT, List.set_cons_zero, List.set_cons_succ]); try exact rfl
            refine al_unwanted rfl rfl rfl rfl ?_
            apply al_normT
            · (try dsimp only [putT, List.set_cons_zero, List.set_cons_succ]); try exact rfl
            refine al_unwanted rfl rfl rfl rfl ?_
            apply al_normT
            · (try dsimp only [putT, List.set_cons_zero, List.set_cons_succ]); try exact rfl
            refine al_unwanted0 rfl rfl rfl ?_
            apply al_normT
            · (try dsimp only [putT, List.set_cons_zero, List.set_cons_succ]); try exact rfl
            refine al_unwanted0 rfl rfl rfl ?_
            apply al_normT
            · (try dsimp only [putT, List.set_cons_zero, List.set_cons_succ]); try exact rfl
            refine al_unwanted rfl rfl rfl rfl ?_
            apply al_normT
            · (try dsimp only [putT, List.set_cons_zero, List.set_cons_succ]); try exact rfl
            apply al_wantedN
            · rfl
            · rfl
            · rfl
            · exact op_pick_ff (by rfl) (val_const (by rfl))
            · (try dsimp only [putT, List.set_cons_zero, List.set_cons_succ]); try exact rfl
            apply al_stepN
            · exact op_pick_ff (by rfl) (val_tmp (by rfl))
            · rfl
            · (try dsimp only [putT, List.set_cons_zero, List.set_cons_succ]); try exact rfl
            apply al_end
            · (try dsimp only [putT, List.set_cons_zero, List.set_cons_succ]); try exact rfl
            refine then_normal ?_
            refine aw_cond rfl (fun h => by cases h) (fun _ => ?_)
            refine aw_skip ?_
            apply cut_to (true :: false :: false :: false :: false :: true :: false :: false :: false :: false :: false :: false :: false :: false :: false :: false :: false :: false :: false :: false :: false :: false :: false :: false :: false :: false :: false :: false :: false :: false :: false :: false :: false :: false :: false :: false :: false :: false :: false :: false :: false :: false :: false :: false :: false :: false :: false :: false :: false :: false :: false :: false :: false :: false :: false :: false :: false :: false :: false :: false :: false :: false :: false :: false :: false :: false :: false :: false :: false :: false :: false :: false :: false :: false :: false :: false :: false :: false :: false :: false :: false :: false :: false :: false :: false :: false :: false :: false :: false :: false :: false :: false :: false :: false :: false :: false :: false :: false :: false :: false :: false :: false :: false :: false :: false :: false :: false :: [])
            · (try dsimp only [maskT]); try exact rfl
            · rfl
            exact ⟨(), rfl, trivial⟩
      rintro T H ⟨u, rfl, -⟩
      apply aw_cutF (fun T H => ∃ (u : Unit), T = ((.d (S k)) :: .un :: .un :: .un :: .un :: .un :: .un :: .un :: .un :: .un :: .un :: .un :: .un :: .un :: .un :: .un :: .un :: .un :: .un :: .un :: .un :: .un :: .un :: .un :: .un :: .un :: .un :: .un :: .un :: .un :: .un :: .un :: .un :: .un :: .un :: .un :: .un :: .un :: .un :: .un :: .un :: .un :: .un :: .un :: .un :: .un :: .un :: .un :: .un :: .un :: .un :: .un :: .un :: .un :: .un :: .un :: .un :: .un :: .un :: .un :: .un :: .un :: .un :: .un :: .un :: .un :: .un :: .un :: .un :: .un :: .un :: .un :: .un :: .un :: .un :: .un :: .un :: .un :: .un :: .un :: .un :: .un :: .un :: .un :: .un :: .un :: .un :: .un :: .un :: .un :: .un :: .un :: .un :: .un :: .un :: .un :: .un :: .un :: .un :: .un :: .un :: .un :: .un :: .un :: .un :: .un :: .un :: []) ∧ True)
      · skip
        refine aw_seq ?_
        refine aw_region ?_
        apply al_stepN
        · exact op_move_tmp (by rfl)
        · rfl
        · (try dsimp only [putT, List.set_cons_zero, List.set_cons_succ]); try exact rfl
        apply al_stepN
        · exact op_not (by rfl)
        · rfl
        · (try dsimp only [putT, List.set_cons_zero, List.set_cons_succ]); try exact rfl
        apply al_end
        · (try dsimp only [putT, List.set_cons_zero, List.set_cons_succ]); try exact rfl
        refine then_normal ?_
        refine aw_cond rfl (fun hc13 => ?_) (fun hc13 => ?_)
        · skip
          (try simp only [decide_eq_true_eq, decide_eq_false_iff_not, beq_iff_eq, beq_eq_false_iff_ne, Bool.not_eq_true', Bool.not_eq_false', bne_iff_ne, ne_eq, Decidable.not_not, bne_eq_false_iff_eq, List.length_map] at hc13)
          have hcn := cut_none hc13
          refine aw_seq ?_
          refine aw_region ?_
          apply al_stepN
          · exact op_assign_const (by rfl)
          · rfl
          · (try dsimp only [putT, List.set_cons_zero, List.set_cons_succ]); try exact rfl
          apply al_end
          · (try dsimp only [putT, List.set_cons_zero, List.set_cons_succ]); try exact rfl
          refine then_normal ?_
          refine aw_block ?_
          apply aw_loopF (fun n T H => ∃ (m : Nat), T = ((.d (S k)) :: .un :: .un :: .un :: .un :: .un :: (.d (I (m + 2 : Nat))) :: .un :: .un :: .un :: .un :: .un :: .un :: .un :: .un :: .un :: .un :: .un :: .un :: .un :: .un :: .un :: .un :: .un :: .un :: .un :: .un :: .un :: .un :: .un :: .un :: .un :: .un :: .un :: .un :: .un :: .un :: .un :: .un :: .un :: .un :: .un :: .un :: .un :: .un :: .un :: .un :: .un :: .un :: .un :: .un :: .un :: .un :: .un :: .un :: .un :: .un :: .un :: .un :: .un :: .un :: .un :: .un :: .un :: .un :: .un :: .un :: .un :: .un :: .un :: .un :: .un :: .un :: .un :: .un :: .un :: .un :: .un :: .un :: .un :: .un :: .un :: .un :: .un :: .un :: .un :: .un :: .un :: .un :: .un :: .un :: .un :: .un :: .un :: .un :: .un :: .un :: .un :: .un :: .un :: .un :: .un :: .un :: .un :: .un :: .un :: .un :: []) ∧ (m + 2 ≤ k.length + 1 ∨ m = 0) ∧ n = k.length + 1 - (m + 2)) (k.length + 1 - 2) (true :: false :: false :: false :: false :: false :: true :: false :: false :: false :: false :: false :: false :: false :: false :: false :: false :: false :: false :: false :: false :: false :: false :: false :: false :: false :: false :: false :: false :: false :: false :: false :: false :: false :: false :: false :: false :: false :: false :: false :: false :: false :: false :: false :: false :: false :: false :: false :: false :: false :: false :: false :: false :: false :: false :: false :: false :: false :: false :: false :: false :: false :: false :: false :: false :: false :: false :: false :: false :: false :: false :: false :: false :: false :: false :: false :: false :: false :: false :: false :: false :: false :: false :: false :: false :: false :: false :: false :: false :: false :: false :: false :: false :: false :: false :: false :: false :: false :: false :: false :: false :: false :: false :: false :: false :: false :: false :: [])
          · (try dsimp only [maskT]); try exact rfl
          · rfl
          · exact ⟨0, rfl, by omega, rfl⟩
          rintro n T H ⟨m, rfl, hm, rfl⟩
          refine aw_seq ?_
          refine aw_seq ?_
          refine aw_region ?_
          apply al_stepN
          · exact op_move_tmp (by rfl)
          · rfl
          · (try dsimp only [putT, List.set_cons_zero, List.set_cons_succ]); try exact rfl
          apply al_stepN
          · exact op_move_tmp (by rfl)
          · rfl
          · (try dsimp only [putT, List.set_cons_zero, List.set_cons_succ]); try exact rfl
          apply al_stepN
          · exact op_lenS Try.underlying9 (by rfl)
          · rfl
          · (try dsimp only [putT, List.set_cons_zero, List.set_cons_succ]); try exact rfl
          apply al_stepN
          · exact op_leI (by rfl) (by rfl)
          · rfl
          · (try dsimp only [putT, List.set_cons_zero, List.set_cons_succ]); try exact rfl
          apply al_end
          · (try dsimp only [putT, List.set_cons_zero, List.set_cons_succ]); try exact rfl
          refine then_normal ?_
          refine aw_cond rfl (fun hc14 => ?_) (fun hc14 => ?_)
          · skip
            (try simp only [decide_eq_true_eq, decide_eq_false_iff_not, beq_iff_eq, beq_eq_false_iff_ne, Bool.not_eq_true', Bool.not_eq_false', bne_iff_ne, ne_eq, Decidable.not_not, bne_eq_false_iff_eq, List.length_map] at hc14)
            have hlt : m + 2 ≤ k.length := by omega
            obtain ⟨c, hc⟩ : ∃ c, k[m + 1]? = some c := ⟨_, List.getElem?_eq_getElem (by omega)⟩
            obtain ⟨d, hd⟩ : ∃ c, k[m]? = some c := ⟨_, List.getElem?_eq_getElem (by omega)⟩
            have hs1 : IntKind.i64.wrap (((m + 2 : Nat) : Int) - 1) = ((m + 1 : Nat) : Int) := by rw [wrap_i64 (by omega)]; omega
            have hs2 : IntKind.i64.wrap (((m + 2 : Nat) : Int) - 2) = ((m : Nat) : Int) := by rw [wrap_i64 (by omega)]; omega
            refine aw_skip ?_
            refine then_normal ?_
            refine aw_seq ?_
            refine aw_block ?_
            refine aw_seq ?_
            refine aw_region ?_
            apply al_stepN
            · exact op_move_tmp (by rfl)
            · rfl
            · (try dsimp only [putT, List.set_cons_zero, List.set_cons_succ]); try exact rfl
            apply al_stepN
            · exact op_move_tmp (by rfl)
            · rfl
            · (try dsimp only [putT, List.set_cons_zero, List.set_cons_succ]); try exact rfl
            apply al_stepN
            · exact op_sub (by rfl) (by rfl) hs1
            · rfl
            · (try dsimp only [putT, List.set_cons_zero, List.set_cons_succ]); try exact rfl
            apply al_stepN
            · exact op_indexS Try.underlying9 (by rfl) (by rfl) (by omega) (show k[((m + 1 : Nat) : Int).toNat]? = some c by simpa using hc)
            · rfl
            · (try dsimp only [putT, List.set_cons_zero, List.set_cons_succ]); try exact rfl
            apply al_stepN
            · exact op_eqI (by rfl) (by rfl)
            · rfl
            · (try dsimp only [putT, List.set_cons_zero, List.set_cons_succ]); try exact rfl
            apply al_stepN
            · exact op_move_tmp (by rfl)
            · rfl
            · (try dsimp only [putT, List.set_cons_zero, List.set_cons_succ]); try exact rfl
            refine al_split 57 rfl (fun hg15 => ?_) (fun hg15 => ?_)
            · skip
              (try simp only [decide_eq_true_eq, decide_eq_false_iff_not, beq_iff_eq, beq_eq_false_iff_ne, Bool.not_eq_true', Bool.not_eq_false', bne_iff_ne, ne_eq, Decidable.not_not, bne_eq_false_iff_eq, List.length_map] at hg15)
              have hc1 : c = 1 := byte_eq (n := 1) (by decide) hg15
              apply al_normT
              · (try dsimp only [putT, List.set_cons_zero, List.set_cons_succ]); try exact rfl
              apply al_wantedN
              · rfl
              · rfl
              · rfl
              · exact op_move_tmp (by rfl)
              · (try dsimp only [putT, List.set_cons_zero, List.set_cons_succ]); try exact rfl
              apply al_wantedN
              · rfl
              · rfl
              · rfl
              · exact op_move_tmp (by rfl)
              · (try dsimp only [putT, List.set_cons_zero, List.set_cons_succ]); try exact rfl
              apply al_wantedN
              · rfl
              · rfl
              · rfl
              · exact op_sub (by rfl) (by rfl) hs2
              · (try dsimp only [putT, List.set_cons_zero, List.set_cons_succ]); try exact rfl
              apply al_wantedN
              · rfl
              · rfl
              · rfl
              · exact op_indexS Try.underlying9 (by rfl) (by rfl) (by omega) (show k[((m : Nat) : Int).toNat]? = some d by simpa using hd)
              · (try dsimp only [putT, List.set_cons_zero, List.set_cons_succ]); try exact rfl
              apply al_wantedN
              · rfl
              · rfl
              · rfl
              · exact op_eqI (by rfl) (by rfl)
              · (try dsimp only [putT, List.set_cons_zero, List.set_cons_succ]); try exact rfl
              apply al_stepN
              · exact op_pick_tt (by rfl) (val_tmp (by rfl))
              · rfl
              · (try dsimp only [putT, List.set_cons_zero, List.set_cons_succ]); try exact rfl
              apply al_end
              · (try dsimp only [putT, List.set_cons_zero, List.set_cons_succ]); try exact rfl
              refine then_normal ?_
              refine aw_cond rfl (fun hc16 => ?_) (fun hc16 => ?_)
              · skip
                (try simp only [decide_eq_true_eq, decide_eq_false_iff_not, beq_iff_eq, beq_eq_false_iff_ne, Bool.not_eq_true', Bool.not_eq_false', bne_iff_ne, ne_eq, Decidable.not_not, bne_eq_false_iff_eq, List.length_map] at hc16)
                have hd0 : d = 0 := byte_eq (n := 0) (by decide) hc16
                refine aw_seq ?_
                refine aw_region ?_
                apply al_stepN
                · exact op_assign_const (by rfl)
                · rfl
                · (try dsimp only [putT, List.set_cons_zero, List.set_cons_succ]); try exact rfl
                apply al_end
                · (try dsimp only [putT, List.set_cons_zero, List.set_cons_succ]); try exact rfl
                refine then_normal ?_
                refine aw_seq ?_
                refine aw_seq ?_
                refine aw_region ?_
                apply al_stepN
                · exact op_assign_const (by rfl)
                · rfl
                · (try dsimp only [putT, List.set_cons_zero, List.set_cons_succ]); try exact rfl
                apply al_end
                · (try dsimp only [putT, List.set_cons_zero, List.set_cons_succ]); try exact rfl
                refine then_normal ?_
                refine aw_block ?_
                apply aw_loopF (fun n T H => ∃ (i : Nat) (pl : Bool), T = ((.d (S k)) :: .un :: .un :: .un :: .un :: .un :: (.d (I (m + 2 : Nat))) :: (.d (TF pl)) :: (.d (I i)) :: .un :: .un :: .un :: .un :: .un :: .un :: .un :: .un :: .un :: .un :: .un :: .un :: .un :: .un :: .un :: .un :: .un :: .un :: .un :: .un :: .un :: .un :: .un :: .un :: .un :: .un :: .un :: .un :: .un :: .un :: .un :: .un :: .un :: .un :: .un :: .un :: .un :: .un :: .un :: .un :: .un :: .un :: .un :: .un :: .un :: .un :: .un :: .un :: .un :: .un :: .un :: .un :: .un :: .un :: .un :: .un :: .un :: .un :: .un :: .un :: .un :: .un :: .un :: .un :: .un :: .un :: .un :: .un :: .un :: .un :: .un :: .un :: .un :: .un :: .un :: .un :: .un :: .un :: .un :: .un :: .un :: .un :: .un :: .un :: .un :: .un :: .un :: .un :: .un :: .un :: .un :: .un :: .un :: .un :: .un :: .un :: .un :: .un :: []) ∧ i ≤ m + 1 ∧ (pl = true → i ≤ m ∧ ∃ o, cutO o (k.drop i) = none) ∧ n = m - i) (m) (true :: false :: false :: false :: false :: false :: true :: true :: true :: false :: false :: false :: false :: false :: false :: false :: false :: false :: false :: false :: false :: false :: false :: false :: false :: false :: false :: false :: false :: false :: false :: false :: false :: false :: false :: false :: false :: false :: false :: false :: false :: false :: false :: false :: false :: false :: false :: false :: false :: false :: false :: false :: false :: false :: false :: false :: false :: false :: false :: false :: false :: false :: false :: false :: false :: false :: false :: false :: false :: false :: false :: false :: false :: false :: false :: false :: false :: false :: false :: false :: false :: false :: false :: false :: false :: false :: false :: false :: false :: false :: false :: false :: false :: false :: false :: false :: false :: false :: false :: false :: false :: false :: false :: false :: false :: false :: false :: [])
                · (try dsimp only [maskT]); try exact rfl
                · rfl
                · exact ⟨0, true, rfl, by omega, fun _ => ⟨by omega, [], by rw [cutO_nil]; exact hcn⟩, rfl⟩
                rintro n T H ⟨i, pl, rfl, hi, hpl, rfl⟩
                refine aw_seq ?_
                refine aw_seq ?_
                refine aw_region ?_
                apply al_stepN
                · exact op_move_tmp (by rfl)
                · rfl
                · (try dsimp only [putT, List.set_cons_zero, List.set_cons_succ]); try exact rfl
                apply al_stepN
                · exact op_move_tmp (by rfl)
                · rfl
                · (try dsimp only [putT, List.set_cons_zero, List.set_cons_succ]); try exact rfl
                apply al_stepN
                · exact op_sub (by rfl) (by rfl) hs2
                · rfl
                · (try dsimp only [putT, List.set_cons_zero, List.set_cons_succ]); try exact rfl
                apply al_stepN
                · exact op_ltI (by rfl) (by rfl)
                · rfl
                · (try dsimp only [putT, List.set_cons_zero, List.set_cons_succ]); try exact rfl
                apply al_end
                · (try dsimp only [putT, List.set_cons_zero, List.set_cons_succ]); try exact rfl
                refine then_normal ?_
                refine aw_cond rfl (fun hc17 => ?_) (fun hc17 => ?_)
                · skip
                  (try simp only [decide_eq_true_eq, decide_eq_false_iff_not, beq_iff_eq, beq_eq_false_iff_ne, Bool.not_eq_true', Bool.not_eq_false', bne_iff_ne, ne_eq, Decidable.not_not, bne_eq_false_iff_eq, List.length_map] at hc17)
                  have hlt2 : i < m := by omega
                  obtain ⟨e, he⟩ : ∃ c, k[i]? = some c := ⟨_, List.getElem?_eq_getElem (by omega)⟩
                  obtain ⟨f, hf⟩ : ∃ c, k[i + 1]? = some c := ⟨_, List.getElem?_eq_getElem (by omega)⟩
                  refine aw_skip ?_
                  refine then_normal ?_
                  refine aw_seq ?_
                  refine aw_block ?_
                  refine aw_seq ?_
                  refine aw_seq ?_
                  refine aw_region ?_
                  apply al_stepN
                  · exact op_move_tmp (by rfl)
                  · rfl
                  · (try dsimp only [putT, List.set_cons_zero, List.set_cons_succ]); try exact rfl
                  apply al_stepN
                  · exact op_move_tmp (by rfl)
                  · rfl
                  · (try dsimp only [putT, List.set_cons_zero, List.set_cons_succ]); try exact rfl
                  apply al_stepN
                  · exact op_indexS Try.underlying9 (by rfl) (by rfl) (by omega) (show k[((i : Nat) : Int).toNat]? = some e by simpa using he)
                  · rfl
                  · (try dsimp only [putT, List.set_cons_zero, List.set_cons_succ]); try exact rfl
                  apply al_stepN
                  · exact op_eqI (by rfl) (by rfl)
                  · rfl
                  · (try dsimp only [putT, List.set_cons_zero, List.set_cons_succ]); try exact rfl
                  apply al_end
                  · (try dsimp only [putT, List.set_cons_zero, List.set_cons_succ]); try exact rfl
                  refine then_normal ?_
                  refine aw_cond rfl (fun hc18 => ?_) (fun hc18 => ?_)
                  · skip
                    (try simp only [decide_eq_true_eq, decide_eq_false_iff_not, beq_iff_eq, beq_eq_false_iff_ne, Bool.not_eq_true', Bool.not_eq_false', bne_iff_ne, ne_eq, Decidable.not_not, bne_eq_false_iff_eq, List.length_map] at hc18)
                    have he0 : e = 0 := byte_eq (n := 0) (by decide) hc18
                    refine aw_seq ?_
                    refine aw_region ?_
                    apply al_stepN
                    · exact op_move_tmp (by rfl)
                    · rfl
                    · (try dsimp only [putT, List.set_cons_zero, List.set_cons_succ]); try exact rfl
                    apply al_stepN
                    · exact op_move_tmp (by rfl)
                    · rfl
                    · (try dsimp only [putT, List.set_cons_zero, List.set_cons_succ]); try exact rfl
                    refine al_split 75 rfl (fun hg19 => ?_) (fun hg19 => ?_)
                    · skip
                      (try simp only [decide_eq_true_eq, decide_eq_false_iff_not, beq_iff_eq, beq_eq_false_iff_ne, Bool.not_eq_true', Bool.not_eq_false', bne_iff_ne, ne_eq, Decidable.not_not, bne_eq_false_iff_eq, List.length_map] at hg19)
                      have hpt : pl = true := hg19
                      apply al_normT
                      · (try dsimp only [putT, List.set_cons_zero, List.set_cons_succ]); try exact rfl
                      apply al_wantedN
                      · rfl
                      · rfl
                      · rfl
                      · exact op_move_tmp (by rfl)
                      · (try dsimp only [putT, List.set_cons_zero, List.set_cons_succ]); try exact rfl
                      apply al_wantedN
                      · rfl
                      · rfl
                      · rfl
                      · exact op_move_tmp (by rfl)
                      · (try dsimp only [putT, List.set_cons_zero, List.set_cons_succ]); try exact rfl
                      apply al_wantedN
                      · rfl
                      · rfl
                      · rfl
                      · first | exact op_add (by rfl) (by rfl) (wrap_i64 ⟨by omega, by omega⟩) | exact op_add (by rfl) (by rfl) (by rfl)
                      · (try dsimp only [putT, List.set_cons_zero, List.set_cons_succ]); try exact rfl
                      apply al_wantedN
                      · rfl
                      · rfl
                      · rfl
                      · exact op_indexS Try.underlying9 (by rfl) (by rfl) (by omega) (show k[((i + 1 : Nat) : Int).toNat]? = some f by simpa using hf)
                      · (try dsimp only [putT, List.set_cons_zero, List.set_cons_succ]); try exact rfl
                      apply al_wantedN
                      · rfl
                      · rfl
                      · rfl
                      · exact op_eqI (by rfl) (by rfl)
                      · (try dsimp only [putT, List.set_cons_zero, List.set_cons_succ]); try exact rfl
                      apply al_stepN
                      · exact op_pick_tt (by rfl) (val_tmp (by rfl))
                      · rfl
                      · (try dsimp only [putT, List.set_cons_zero, List.set_cons_succ]); try exact rfl
                      apply al_stepN
                      · exact op_assign_tmp (by rfl)
                      · rfl
                      · (try dsimp only [putT, List.set_cons_zero, List.set_cons_succ]); try exact rfl
                      apply al_end
                      · (try dsimp only [putT, List.set_cons_zero, List.set_cons_succ]); try exact rfl
                      refine then_normal ?_
                      refine aw_region ?_
                      apply al_stepN
                      · exact op_move_tmp (by rfl)
                      · rfl
                      · (try dsimp only [putT, List.set_cons_zero, List.set_cons_succ]); try exact rfl
                      apply al_stepN
                      · first | exact op_add (by rfl) (by rfl) (wrap_i64 ⟨by omega, by omega⟩) | exact op_add (by rfl) (by rfl) (by rfl)
                      · rfl
                      · (try dsimp only [putT, List.set_cons_zero, List.set_cons_succ]); try exact rfl
                      apply al_stepN
                      · exact op_assign_tmp (by rfl)
                      · rfl
                      · (try dsimp only [putT, List.set_cons_zero, List.set_cons_succ]); try exact rfl
                      apply al_end
                      · (try dsimp only [putT, List.set_cons_zero, List.set_cons_succ]); try exact rfl
                      refine then_normal ?_
                      refine aw_seq ?_
                      refine aw_region ?_
                      apply al_stepN
                      · exact op_move_tmp (by rfl)
                      · rfl
                      · (try dsimp only [putT, List.set_cons_zero, List.set_cons_succ]); try exact rfl
                      apply al_stepN
                      · exact op_move_tmp (by rfl)
                      · rfl
                      · (try dsimp only [putT, List.set_cons_zero, List.set_cons_succ]); try exact rfl
                      apply al_stepN
                      · exact op_sub (by rfl) (by rfl) hs2
                      · rfl
                      · (try dsimp only [putT, List.set_cons_zero, List.set_cons_succ]); try exact rfl
                      apply al_stepN
                      · exact op_geI (by rfl) (by rfl)
                      · rfl
                      · (try dsimp only [putT, List.set_cons_zero, List.set_cons_succ]); try exact rfl
                      apply al_end
                      · (try dsimp only [putT, List.set_cons_zero, List.set_cons_succ]); try exact rfl
                      refine then_normal ?_
                      refine aw_cond rfl (fun hc20 => ?_) (fun hc20 => ?_)
                      · skip
                        (try simp only [decide_eq_true_eq, decide_eq_false_iff_not, beq_iff_eq, beq_eq_false_iff_ne, Bool.not_eq_true', Bool.not_eq_false', bne_iff_ne, ne_eq, Decidable.not_not, bne_eq_false_iff_eq, List.length_map] at hc20)
                        refine aw_region ?_
                        apply al_stepN
                        · exact op_assign_const (by rfl)
                        · rfl
                        · (try dsimp only [putT, List.set_cons_zero, List.set_cons_succ]); try exact rfl
                        apply al_end
                        · (try dsimp only [putT, List.set_cons_zero, List.set_cons_succ]); try exact rfl
                        refine inBlock_normal (then_normal ?_)
                        refine aw_region ?_
                        apply al_stepN
                        · exact op_move_tmp (by rfl)
                        · rfl
                        · (try dsimp only [putT, List.set_cons_zero, List.set_cons_succ]); try exact rfl
                        apply al_stepN
                        · first | exact op_add (by rfl) (by rfl) (wrap_i64 ⟨by omega, by omega⟩) | exact op_add (by rfl) (by rfl) (by rfl)
                        · rfl
                        · (try dsimp only [putT, List.set_cons_zero, List.set_cons_succ]); try exact rfl
                        apply al_stepN
                        · exact op_assign_tmp (by rfl)
                        · rfl
                        · (try dsimp only [putT, List.set_cons_zero, List.set_cons_succ]); try exact rfl
                        apply al_end
                        · (try dsimp only [putT, List.set_cons_zero, List.set_cons_succ]); try exact rfl
                        apply again_to (m - (i + 2)) (true :: false :: false :: false :: false :: false :: true :: true :: true :: false :: false :: false :: false :: false :: false :: false :: false :: false :: false :: false :: false :: false :: false :: false :: false :: false :: false :: false :: false :: false :: false :: false :: false :: false :: false :: false :: false :: false :: false :: false :: false :: false :: false :: false :: false :: false :: false :: false :: false :: false :: false :: false :: false :: false :: false :: false :: false :: false :: false :: false :: false :: false :: false :: false :: false :: false :: false :: false :: false :: false :: false :: false :: false :: false :: false :: false :: false :: false :: false :: false :: false :: false :: false :: false :: false :: false :: false :: false :: false :: false :: false :: false :: false :: false :: false :: false :: false :: false :: false :: false :: false :: false :: false :: false :: false :: false :: false :: [])
                        · (try dsimp only [maskT]); try exact rfl
                        · rfl
                        · omega
                        exact ⟨i + 2, false, rfl, by omega, (fun h => nomatch h), rfl⟩
                      · skip
                        (try simp only [decide_eq_true_eq, decide_eq_false_iff_not, beq_iff_eq, beq_eq_false_iff_ne, Bool.not_eq_true', Bool.not_eq_false', bne_iff_ne, ne_eq, Decidable.not_not, bne_eq_false_iff_eq, List.length_map] at hc20)
                        refine aw_skip ?_
                        refine inBlock_normal (then_normal ?_)
                        refine aw_region ?_
                        apply al_stepN
                        · exact op_move_tmp (by rfl)
                        · rfl
                        · (try dsimp only [putT, List.set_cons_zero, List.set_cons_succ]); try exact rfl
                        apply al_stepN
                        · first | exact op_add (by rfl) (by rfl) (wrap_i64 ⟨by omega, by omega⟩) | exact op_add (by rfl) (by rfl) (by rfl)
                        · rfl
                        · (try dsimp only [putT, List.set_cons_zero, List.set_cons_succ]); try exact rfl
                        apply al_stepN
                        · exact op_assign_tmp (by rfl)
                        · rfl
                        · (try dsimp only [putT, List.set_cons_zero, List.set_cons_succ]); try exact rfl
                        apply al_end
                        · (try dsimp only [putT, List.set_cons_zero, List.set_cons_succ]); try exact rfl
                        apply again_to (m - (i + 2)) (true :: false :: false :: false :: false :: false :: true :: true :: true :: false :: false :: false :: false :: false :: false :: false :: false :: false :: false :: false :: false :: false :: false :: false :: false :: false :: false :: false :: false :: false :: false :: false :: false :: false :: false :: false :: false :: false :: false :: false :: false :: false :: false :: false :: false :: false :: false :: false :: false :: false :: false :: false :: false :: false :: false :: false :: false :: false :: false :: false :: false :: false :: false :: false :: false :: false :: false :: false :: false :: false :: false :: false :: false :: false :: false :: false :: false :: false :: false :: false :: false :: false :: false :: false :: false :: false :: false :: false :: false :: false :: false :: false :: false :: false :: false :: false :: false :: false :: false :: false :: false :: false :: false :: false :: false :: false :: false :: [])
                        · (try dsimp only [maskT]); try exact rfl
                        · rfl
                        · omega
                        exact ⟨i + 2, ((f.toNat : Int) == 255), rfl, by omega, fun h => ⟨by omega, scan0 he hf he0 h (hpl hpt).2⟩, rfl⟩
                    · skip
                      (try simp only [decide_eq_true_eq, decide_eq_false_iff_not, beq_iff_eq, beq_eq_false_iff_ne, Bool.not_eq_true', Bool.not_eq_false', bne_iff_ne, ne_eq, Decidable.not_not, bne_eq_false_iff_eq, List.length_map] at hg19)
                      apply al_normT
                      · (try dsimp only [putT, List.set_cons_zero, List.set_cons_succ]); try exact rfl
                      refine al_unwanted rfl rfl rfl rfl ?_
                      apply al_normT
                      · (try dsimp only [putT, List.set_cons_zero, List.set_cons_succ]); try exact rfl
                      refine al_unwanted rfl rfl rfl rfl ?_
                      apply al_normT
                      · (try dsimp only [putT, List.set_cons_zero, List.set_cons_succ]); try exact rfl
                      refine al_unwanted rfl rfl rfl rfl ?_
                      apply al_normT
                      · (try dsimp only [putT, List.set_cons_zero, List.set_cons_succ]); try exact rfl
                      refine al_unwanted rfl rfl rfl rfl ?_
                      apply al_normT
                      · (try dsimp only [putT, List.set_cons_zero, List.set_cons_succ]); try exact rfl
                      refine al_unwanted rfl rfl rfl rfl ?_
                      apply al_normT
                      · (try dsimp only [putT, List.set_cons_zero, List.set_cons_succ]); try exact rfl
                      apply al_stepN
                      · exact op_pick_ff (by rfl) (val_const (by rfl))
                      · rfl
                      · (try dsimp only [putT, List.set_cons_zero, List.set_cons_succ]); try exact rfl
                      apply al_stepN
                      · exact op_assign_tmp (by rfl)
                      · rfl
                      · (try dsimp only [putT, List.set_cons_zero, List.set_cons_succ]); try exact rfl
                      apply al_end
                      · (try dsimp only [putT, List.set_cons_zero, List.set_cons_succ]); try exact rfl
                      refine then_normal ?_
                      refine aw_region ?_
                      apply al_stepN
                      · exact op_move_tmp (by rfl)
                      · rfl
                      · (try dsimp only [putT, List.set_cons_zero, List.set_cons_succ]); try exact rfl
                      apply al_stepN
                      · first | exact op_add (by rfl) (by rfl) (wrap_i64 ⟨by omega, by omega⟩) | exact op_add (by rfl) (by rfl) (by rfl)
                      · rfl
                      · (try dsimp only [putT, List.set_cons_zero, List.set_cons_succ]); try exact rfl
                      apply al_stepN
                      · exact op_assign_tmp (by rfl)
                      · rfl
                      · (try dsimp only [putT, List.set_cons_zero, List.set_cons_succ]); try exact rfl
                      apply al_end
                      · (try dsimp only [putT, List.set_cons_zero, List.set_cons_succ]); try exact rfl
                      refine then_normal ?_
                      refine aw_seq ?_
                      refine aw_region ?_
                      apply al_stepN
                      · exact op_move_tmp (by rfl)
                      · rfl
                      · (try dsimp only [putT, List.set_cons_zero, List.set_cons_succ]); try exact rfl
                      apply al_stepN
                      · exact op_move_tmp (by rfl)
                      · rfl
                      · (try dsimp only [putT, List.set_cons_zero, List.set_cons_succ]); try exact rfl
                      apply al_stepN
                      · exact op_sub (by rfl) (by rfl) hs2
                      · rfl
                      · (try dsimp only [putT, List.set_cons_zero, List.set_cons_succ]); try exact rfl
                      apply al_stepN
                      · exact op_geI (by rfl) (by rfl)
                      · rfl
                      · (try dsimp only [putT, List.set_cons_zero, List.set_cons_succ]); try exact rfl
                      apply al_end
                      · (try dsimp only [putT, List.set_cons_zero, List.set_cons_succ]); try exact rfl
                      refine then_normal ?_
                      refine aw_cond rfl (fun hc21 => ?_) (fun hc21 => ?_)
                      · skip
                        (try simp only [decide_eq_true_eq, decide_eq_false_iff_not, beq_iff_eq, beq_eq_false_iff_ne, Bool.not_eq_true', Bool.not_eq_false', bne_iff_ne, ne_eq, Decidable.not_not, bne_eq_false_iff_eq, List.length_map] at hc21)
                        refine aw_region ?_
                        apply al_stepN
                        · exact op_assign_const (by rfl)
                        · rfl
                        · (try dsimp only [putT, List.set_cons_zero, List.set_cons_succ]); try exact rfl
                        apply al_end
                        · (try dsimp only [putT, List.set_cons_zero, List.set_cons_succ]); try exact rfl
                        refine inBlock_normal (then_normal ?_)
                        refine aw_region ?_
                        apply al_stepN
                        · exact op_move_tmp (by rfl)
                        · rfl
                        · (try dsimp only [putT, List.set_cons_zero, List.set_cons_succ]); try exact rfl
                        apply al_stepN
                        · first | exact op_add (by rfl) (by rfl) (wrap_i64 ⟨by omega, by omega⟩) | exact op_add (by rfl) (by rfl) (by rfl)
                        · rfl
                        · (try dsimp only [putT, List.set_cons_zero, List.set_cons_succ]); try exact rfl
                        apply al_stepN
                        · exact op_assign_tmp (by rfl)
                        · rfl
                        · (try dsimp only [putT, List.set_cons_zero, List.set_cons_succ]); try exact rfl
                        apply al_end
                        · (try dsimp only [putT, List.set_cons_zero, List.set_cons_succ]); try exact rfl
                        apply again_to (m - (i + 2)) (true :: false :: false :: false :: false :: false :: true :: true :: true :: false :: false :: false :: false :: false :: false :: false :: false :: false :: false :: false :: false :: false :: false :: false :: false :: false :: false :: false :: false :: false :: false :: false :: false :: false :: false :: false :: false :: false :: false :: false :: false :: false :: false :: false :: false :: false :: false :: false :: false :: false :: false :: false :: false :: false :: false :: false :: false :: false :: false :: false :: false :: false :: false :: false :: false :: false :: false :: false :: false :: false :: false :: false :: false :: false :: false :: false :: false :: false :: false :: false :: false :: false :: false :: false :: false :: false :: false :: false :: false :: false :: false :: false :: false :: false :: false :: false :: false :: false :: false :: false :: false :: false :: false :: false :: false :: false :: false :: [])
                        · (try dsimp only [maskT]); try exact rfl
                        · rfl
                        · omega
                        exact ⟨i + 2, false, rfl, by omega, (fun h => nomatch h), rfl⟩
                      · skip
                        (try simp only [decide_eq_true_eq, decide_eq_false_iff_not, beq_iff_eq, beq_eq_false_iff_ne, Bool.not_eq_true', Bool.not_eq_false', bne_iff_ne, ne_eq, Decidable.not_not, bne_eq_false_iff_eq, List.length_map] at hc21)
                        refine aw_skip ?_
                        refine inBlock_normal (then_normal ?_)
                        refine aw_region ?_
                        apply al_stepN
                        · exact op_move_tmp (by rfl)
                        · rfl
                        · (try dsimp only [putT, List.set_cons_zero, List.set_cons_succ]); try exact rfl
                        apply al_stepN
                        · first | exact op_add (by rfl) (by rfl) (wrap_i64 ⟨by omega, by omega⟩) | exact op_add (by rfl) (by rfl) (by rfl)
                        · rfl
                        · (try dsimp only [putT, List.set_cons_zero, List.set_cons_succ]); try exact rfl
                        apply al_stepN
                        · exact op_assign_tmp (by rfl)
                        · rfl
                        · (try dsimp only [putT, List.set_cons_zero, List.set_cons_succ]); try exact rfl
                        apply al_end
                        · (try dsimp only [putT, List.set_cons_zero, List.set_cons_succ]); try exact rfl
                        apply again_to (m - (i + 2)) (true :: false :: false :: false :: false :: false :: true :: true :: true :: false :: false :: false :: false :: false :: false :: false :: false :: false :: false :: false :: false :: false :: false :: false :: false :: false :: false :: false :: false :: false :: false :: false :: false :: false :: false :: false :: false :: false :: false :: false :: false :: false :: false :: false :: false :: false :: false :: false :: false :: false :: false :: false :: false :: false :: false :: false :: false :: false :: false :: false :: false :: false :: false :: false :: false :: false :: false :: false :: false :: false :: false :: false :: false :: false :: false :: false :: false :: false :: false :: false :: false :: false :: false :: false :: false :: false :: false :: false :: false :: false :: false :: false :: false :: false :: false :: false :: false :: false :: false :: false :: false :: false :: false :: false :: false :: false :: false :: [])
                        · (try dsimp only [maskT]); try exact rfl
                        · rfl
                        · omega
                        exact ⟨i + 2, false, rfl, by omega, (fun h => nomatch h), rfl⟩
                  · skip
                    (try simp only [decide_eq_true_eq, decide_eq_false_iff_not, beq_iff_eq, beq_eq_false_iff_ne, Bool.not_eq_true', Bool.not_eq_false', bne_iff_ne, ne_eq, Decidable.not_not, bne_eq_false_iff_eq, List.length_map] at hc18)
                    have he0 : e ≠ 0 := by intro h; subst h; exact hc18 rfl
                    refine aw_skip ?_
                    refine then_normal ?_
                    refine aw_seq ?_
                    refine aw_region ?_
                    apply al_stepN
                    · exact op_move_tmp (by rfl)
                    · rfl
                    · (try dsimp only [putT, List.set_cons_zero, List.set_cons_succ]); try exact rfl
                    apply al_stepN
                    · exact op_move_tmp (by rfl)
                    · rfl
                    · (try dsimp only [putT, List.set_cons_zero, List.set_cons_succ]); try exact rfl
                    apply al_stepN
                    · exact op_sub (by rfl) (by rfl) hs2
                    · rfl
                    · (try dsimp only [putT, List.set_cons_zero, List.set_cons_succ]); try exact rfl
                    apply al_stepN
                    · exact op_geI (by rfl) (by rfl)
                    · rfl
                    · (try dsimp only [putT, List.set_cons_zero, List.set_cons_succ]); try exact rfl
                    apply al_end
                    · (try dsimp only [putT, List.set_cons_zero, List.set_cons_succ]); try exact rfl
                    refine then_normal ?_
                    refine aw_cond rfl (fun hc22 => ?_) (fun hc22 => ?_)
                    · skip
                      (try simp only [decide_eq_true_eq, decide_eq_false_iff_not, beq_iff_eq, beq_eq_false_iff_ne, Bool.not_eq_true', Bool.not_eq_false', bne_iff_ne, ne_eq, Decidable.not_not, bne_eq_false_iff_eq, List.length_map] at hc22)
                      refine aw_region ?_
                      apply al_stepN
                      · exact op_assign_const (by rfl)
                      · rfl
                      · (try dsimp only [putT, List.set_cons_zero, List.set_cons_succ]); try exact rfl
                      apply al_end
                      · (try dsimp only [putT, List.set_cons_zero, List.set_cons_succ]); try exact rfl
                      refine inBlock_normal (then_normal ?_)
                      refine aw_region ?_
                      apply al_stepN
                      · exact op_move_tmp (by rfl)
                      · rfl
                      · (try dsimp only [putT, List.set_cons_zero, List.set_cons_succ]); try exact rfl
                      apply al_stepN
                      · first | exact op_add (by rfl) (by rfl) (wrap_i64 ⟨by omega, by omega⟩) | exact op_add (by rfl) (by rfl) (by rfl)
                      · rfl
                      · (try dsimp only [putT, List.set_cons_zero, List.set_cons_succ]); try exact rfl
                      apply al_stepN
                      · exact op_assign_tmp (by rfl)
                      · rfl
                      · (try dsimp only [putT, List.set_cons_zero, List.set_cons_succ]); try exact rfl
                      apply al_end
                      · (try dsimp only [putT, List.set_cons_zero, List.set_cons_succ]); try exact rfl
                      apply again_to (m - (i + 1)) (true :: false :: false :: false :: false :: false :: true :: true :: true :: false :: false :: false :: false :: false :: false :: false :: false :: false :: false :: false :: false :: false :: false :: false :: false :: false :: false :: false :: false :: false :: false :: false :: false :: false :: false :: false :: false :: false :: false :: false :: false :: false :: false :: false :: false :: false :: false :: false :: false :: false :: false :: false :: false :: false :: false :: false :: false :: false :: false :: false :: false :: false :: false :: false :: false :: false :: false :: false :: false :: false :: false :: false :: false :: false :: false :: false :: false :: false :: false :: false :: false :: false :: false :: false :: false :: false :: false :: false :: false :: false :: false :: false :: false :: false :: false :: false :: false :: false :: false :: false :: false :: false :: false :: false :: false :: false :: false :: [])
                      · (try dsimp only [maskT]); try exact rfl
                      · rfl
                      · omega
                      exact ⟨i + 1, false, rfl, by omega, (fun h => nomatch h), rfl⟩
                    · skip
                      (try simp only [decide_eq_true_eq, decide_eq_false_iff_not, beq_iff_eq, beq_eq_false_iff_ne, Bool.not_eq_true', Bool.not_eq_false', bne_iff_ne, ne_eq, Decidable.not_not, bne_eq_false_iff_eq, List.length_map] at hc22)
                      refine aw_skip ?_
                      refine inBlock_normal (then_normal ?_)
                      refine aw_region ?_
                      apply al_stepN
                      · exact op_move_tmp (by rfl)
                      · rfl
                      · (try dsimp only [putT, List.set_cons_zero, List.set_cons_succ]); try exact rfl
                      apply al_stepN
                      · first | exact op_add (by rfl) (by rfl) (wrap_i64 ⟨by omega, by omega⟩) | exact op_add (by rfl) (by rfl) (by rfl)
                      · rfl
                      · (try dsimp only [putT, List.set_cons_zero, List.set_cons_succ]); try exact rfl
                      apply al_stepN
                      · exact op_assign_tmp (by rfl)
                      · rfl
                      · (try dsimp only [putT, List.set_cons_zero, List.set_cons_succ]); try exact rfl
                      apply al_end
                      · (try dsimp only [putT, List.set_cons_zero, List.set_cons_succ]); try exact rfl
                      apply again_to (m - (i + 1)) (true :: false :: false :: false :: false :: false :: true :: true :: true :: false :: false :: false :: false :: false :: false :: false :: false :: false :: false :: false :: false :: false :: false :: false :: false :: false :: false :: false :: false :: false :: false :: false :: false :: false :: false :: false :: false :: false :: false :: false :: false :: false :: false :: false :: false :: false :: false :: false :: false :: false :: false :: false :: false :: false :: false :: false :: false :: false :: false :: false :: false :: false :: false :: false :: false :: false :: false :: false :: false :: false :: false :: false :: false :: false :: false :: false :: false :: false :: false :: false :: false :: false :: false :: false :: false :: false :: false :: false :: false :: false :: false :: false :: false :: false :: false :: false :: false :: false :: false :: false :: false :: false :: false :: false :: false :: false :: false :: [])
                      · (try dsimp only [maskT]); try exact rfl
                      · rfl
                      · omega
                      exact ⟨i + 1, pl, rfl, by omega, fun h => ⟨by omega, scan1 he he0 (hpl h).2⟩, rfl⟩
                · skip
                  (try simp only [decide_eq_true_eq, decide_eq_false_iff_not, beq_iff_eq, beq_eq_false_iff_ne, Bool.not_eq_true', Bool.not_eq_false', bne_iff_ne, ne_eq, Decidable.not_not, bne_eq_false_iff_eq, List.length_map] at hc17)
                  refine aw_exit ?_
                  refine then_exit (again_exit (inBlock_here (then_normal ?_)))
                  refine aw_seq ?_
                  refine aw_region ?_
                  apply al_stepN
                  · exact op_move_tmp (by rfl)
                  · rfl
                  · (try dsimp only [putT, List.set_cons_zero, List.set_cons_succ]); try exact rfl
                  apply al_end
                  · (try dsimp only [putT, List.set_cons_zero, List.set_cons_succ]); try exact rfl
                  refine then_normal ?_
                  refine aw_cond rfl (fun hc23 => ?_) (fun hc23 => ?_)
                  · skip
                    (try simp only [decide_eq_true_eq, decide_eq_false_iff_not, beq_iff_eq, beq_eq_false_iff_ne, Bool.not_eq_true', Bool.not_eq_false', bne_iff_ne, ne_eq, Decidable.not_not, bne_eq_false_iff_eq, List.length_map] at hc23)
                    exact (scan_end hc hd hc1 hd0 (by have h := hpl hc23; rw [show i = m by omega] at h; exact h.2)).elim
                  · skip
                    (try simp only [decide_eq_true_eq, decide_eq_false_iff_not, beq_iff_eq, beq_eq_false_iff_ne, Bool.not_eq_true', Bool.not_eq_false', bne_iff_ne, ne_eq, Decidable.not_not, bne_eq_false_iff_eq, List.length_map] at hc23)
                    refine aw_skip ?_
                    refine inBlock_normal (then_normal ?_)
                    refine aw_region ?_
                    apply al_stepN
                    · exact op_move_tmp (by rfl)
                    · rfl
                    · (try dsimp only [putT, List.set_cons_zero, List.set_cons_succ]); try exact rfl
                    apply al_stepN
                    · first | exact op_add (by rfl) (by rfl) (wrap_i64 ⟨by omega, by omega⟩) | exact op_add (by rfl) (by rfl) (by rfl)
                    · rfl
                    · (try dsimp only [putT, List.set_cons_zero, List.set_cons_succ]); try exact rfl
                    apply al_stepN
                    · exact op_assign_tmp (by rfl)
                    · rfl
                    · (try dsimp only [putT, List.set_cons_zero, List.set_cons_succ]); try exact rfl
                    apply al_end
                    · (try dsimp only [putT, List.set_cons_zero, List.set_cons_succ]); try exact rfl
                    apply again_to (k.length + 1 - (m + 1 + 2)) (true :: false :: false :: false :: false :: false :: true :: false :: false :: false :: false :: false :: false :: false :: false :: false :: false :: false :: false :: false :: false :: false :: false :: false :: false :: false :: false :: false :: false :: false :: false :: false :: false :: false :: false :: false :: false :: false :: false :: false :: false :: false :: false :: false :: false :: false :: false :: false :: false :: false :: false :: false :: false :: false :: false :: false :: false :: false :: false :: false :: false :: false :: false :: false :: false :: false :: false :: false :: false :: false :: false :: false :: false :: false :: false :: false :: false :: false :: false :: false :: false :: false :: false :: false :: false :: false :: false :: false :: false :: false :: false :: false :: false :: false :: false :: false :: false :: false :: false :: false :: false :: false :: false :: false :: false :: false :: false :: [])
                    · (try dsimp only [maskT]); try exact rfl
                    · rfl
                    · omega
                    exact ⟨m + 1, rfl, by omega, rfl⟩
              · skip
                (try simp only [decide_eq_true_eq, decide_eq_false_iff_not, beq_iff_eq, beq_eq_false_iff_ne, Bool.not_eq_true', Bool.not_eq_false', bne_iff_ne, ne_eq, Decidable.not_not, bne_eq_false_iff_eq, List.length_map] at hc16)
                refine aw_skip ?_
                refine inBlock_normal (then_normal ?_)
                refine aw_region ?_
                apply al_stepN
                · exact op_move_tmp (by rfl)
                · rfl
                · (try dsimp only [putT, List.set_cons_zero, List.set_cons_succ]); try exact rfl
                apply al_stepN
                · first | exact op_add (by rfl) (by rfl) (wrap_i64 ⟨by omega, by omega⟩) | exact op_add (by rfl) (by rfl) (by rfl)
                · rfl
                · (try dsimp only [putT, List.set_cons_zero, List.set_cons_succ]); try exact rfl
                apply al_stepN
                · exact op_assign_tmp (by rfl)
                · rfl
                · (try dsimp only [putT, List.set_cons_zero, List.set_cons_succ]); try exact rfl
                apply al_end
                · (try dsimp only [putT, List.set_cons_zero, List.set_cons_succ]); try exact rfl
                apply again_to (k.length + 1 - (m + 1 + 2)) (true :: false :: false :: false :: false :: false :: true :: false :: false :: false :: false :: false :: false :: false :: false :: false :: false :: false :: false :: false :: false :: false :: false :: false :: false :: false :: false :: false :: false :: false :: false :: false :: false :: false :: false :: false :: false :: false :: false :: false :: false :: false :: false :: false :: false :: false :: false :: false :: false :: false :: false :: false :: false :: false :: false :: false :: false :: false :: false :: false :: false :: false :: false :: false :: false :: false :: false :: false :: false :: false :: false :: false :: false :: false :: false :: false :: false :: false :: false :: false :: false :: false :: false :: false :: false :: false :: false :: false :: false :: false :: false :: false :: false :: false :: false :: false :: false :: false :: false :: false :: false :: false :: false :: false :: false :: false :: false :: [])
                · (try dsimp only [maskT]); try exact rfl
                · rfl
                · omega
                exact ⟨m + 1, rfl, by omega, rfl⟩
            · skip
              (try simp only [decide_eq_true_eq, decide_eq_false_iff_not, beq_iff_eq, beq_eq_false_iff_ne, Bool.not_eq_true', Bool.not_eq_false', bne_iff_ne, ne_eq, Decidable.not_not, bne_eq_false_iff_eq, List.length_map] at hg15)
              apply al_normT
              · (try dsimp only [putT, List.set_cons_zero, List.set_cons_succ]); try exact rfl
              refine al_unwanted rfl rfl rfl rfl ?_
              apply al_normT
              · (try dsimp only [putT, List.set_cons_zero, List.set_cons_succ]); try exact rfl
              refine al_unwanted rfl rfl rfl rfl ?_
              apply al_normT
              · (try dsimp only [putT, List.set_cons_zero, List.set_cons_succ]); try exact rfl
              refine al_unwanted rfl rfl rfl rfl ?_
              apply al_normT
              · (try dsimp only [putT, List.set_cons_zero, List.set_cons_succ]); try exact rfl
              refine al_unwanted rfl rfl rfl rfl ?_
              apply al_normT
              · (try dsimp only [putT, List.set_cons_zero, List.set_cons_succ]); try exact rfl
              refine al_unwanted rfl rfl rfl rfl ?_
              apply al_normT
              · (try dsimp only [putT, List.set_cons_zero, List.set_cons_succ]); try exact rfl
              apply al_stepN
              · exact op_pick_ff (by rfl) (val_const (by rfl))
              · rfl
              · (try dsimp only [putT, List.set_cons_zero, List.set_cons_succ]); try exact rfl
              apply al_end
              · (try dsimp only [putT, List.set_cons_zero, List.set_cons_succ]); try exact rfl
              refine then_normal ?_
              refine aw_cond rfl (fun h => by cases h) (fun _ => ?_)
              refine aw_skip ?_
              refine inBlock_normal (then_normal ?_)
              refine aw_region ?_
              apply al_stepN
              · exact op_move_tmp (by rfl)
              · rfl
              · (try dsimp only [putT, List.set_cons_zero, List.set_cons_succ]); try exact rfl
              apply al_stepN
              · first | exact op_add (by rfl) (by rfl) (wrap_i64 ⟨by omega, by omega⟩) | exact op_add (by rfl) (by rfl) (by rfl)
              · rfl
              · (try dsimp only [putT, List.set_cons_zero, List.set_cons_succ]); try exact rfl
              apply al_stepN
              · exact op_assign_tmp (by rfl)
              · rfl
              · (try dsimp only [putT, List.set_cons_zero, List.set_cons_succ]); try exact rfl
              apply al_end
              · (try dsimp only [putT, List.set_cons_zero, List.set_cons_succ]); try exact rfl
              apply again_to (k.length + 1 - (m + 1 + 2)) (true :: false :: false :: false :: false :: false :: true :: false :: false :: false :: false :: false :: false :: false :: false :: false :: false :: false :: false :: false :: false :: false :: false :: false :: false :: false :: false :: false :: false :: false :: false :: false :: false :: false :: false :: false :: false :: false :: false :: false :: false :: false :: false :: false :: false :: false :: false :: false :: false :: false :: false :: false :: false :: false :: false :: false :: false :: false :: false :: false :: false :: false :: false :: false :: false :: false :: false :: false :: false :: false :: false :: false :: false :: false :: false :: false :: false :: false :: false :: false :: false :: false :: false :: false :: false :: false :: false :: false :: false :: false :: false :: false :: false :: false :: false :: false :: false :: false :: false :: false :: false :: false :: false :: false :: false :: false :: false :: [])
              · (try dsimp only [maskT]); try exact rfl
              · rfl
              · omega
              exact ⟨m + 1, rfl, by omega, rfl⟩
          · skip
            (try simp only [decide_eq_true_eq, decide_eq_false_iff_not, beq_iff_eq, beq_eq_false_iff_ne, Bool.not_eq_true', Bool.not_eq_false', bne_iff_ne, ne_eq, Decidable.not_not, bne_eq_false_iff_eq, List.length_map] at hc14)
            refine aw_exit ?_
            refine then_exit (again_exit (inBlock_here ?_))
            apply cut_to (true :: false :: false :: false :: false :: false :: false :: false :: false :: false :: false :: false :: false :: false :: false :: false :: false :: false :: false :: false :: false :: false :: false :: false :: false :: false :: false :: false :: false :: false :: false :: false :: false :: false :: false :: false :: false :: false :: false :: false :: false :: false :: false :: false :: false :: false :: false :: false :: false :: false :: false :: false :: false :: false :: false :: false :: false :: false :: false :: false :: false :: false :: false :: false :: false :: false :: false :: false :: false :: false :: false :: false :: false :: false :: false :: false :: false :: false :: false :: false :: false :: false :: false :: false :: false :: false :: false :: false :: false :: false :: false :: false :: false :: false :: false :: false :: false :: false :: false :: false :: false :: false :: false :: false :: false :: false :: false :: [])
            · (try dsimp only [maskT]); try exact rfl
            · rfl
            exact ⟨(), rfl, trivial⟩
        · skip
          (try simp only [decide_eq_true_eq, decide_eq_false_iff_not, beq_iff_eq, beq_eq_false_iff_ne, Bool.not_eq_true', Bool.not_eq_false', bne_iff_ne, ne_eq, Decidable.not_not, bne_eq_false_iff_eq, List.length_map] at hc13)
          refine aw_skip ?_
          apply cut_to (true :: false :: false :: false :: false :: false :: false :: false :: false :: false :: false :: false :: false :: false :: false :: false :: false :: false :: false :: false :: false :: false :: false :: false :: false :: false :: false :: false :: false :: false :: false :: false :: false :: false :: false :: false :: false :: false :: false :: false :: false :: false :: false :: false :: false :: false :: false :: false :: false :: false :: false :: false :: false :: false :: false :: false :: false :: false :: false :: false :: false :: false :: false :: false :: false :: false :: false :: false :: false :: false :: false :: false :: false :: false :: false :: false :: false :: false :: false :: false :: false :: false :: false :: false :: false :: false :: false :: false :: false :: false :: false :: false :: false :: false :: false :: false :: false :: false :: false :: false :: false :: false :: false :: false :: false :: false :: false :: [])
          · (try dsimp only [maskT]); try exact rfl
          · rfl
          exact ⟨(), rfl, trivial⟩
      rintro T H ⟨u, rfl, -⟩
      refine aw_seq ?_
      refine aw_region ?_
      apply al_stepN
      · exact op_move_tmp (by rfl)
      · rfl
      · (try dsimp only [putT, List.set_cons_zero, List.set_cons_succ]); try exact rfl
      apply al_stepN
      · exact op_callF Try.func20 (by rfl) (by rfl) (.tmp (by rfl) .nil) (parts_ok _ k (by omega))
      · rfl
      · (try dsimp only [putT, List.set_cons_zero, List.set_cons_succ]); try exact rfl
      apply al_stepN
      · exact op_move_tmp (by rfl)
      · rfl
      · (try dsimp only [putT, List.set_cons_zero, List.set_cons_succ]); try exact rfl
      apply al_stepN
      · exact op_extract (by rfl) (by rfl)
      · rfl
      · (try dsimp only [putT, List.set_cons_zero, List.set_cons_succ]); try exact rfl
      apply al_stepN
      · exact op_extract (by rfl) (by rfl)
      · rfl
      · (try dsimp only [putT, List.set_cons_zero, List.set_cons_succ]); try exact rfl
      apply al_stepN
      · exact op_assign_tmp (by rfl)
      · rfl
      · (try dsimp only [putT, List.set_cons_zero, List.set_cons_succ]); try exact rfl
      apply al_stepN
      · exact op_assign_tmp (by rfl)
      · rfl
      · (try dsimp only [putT, List.set_cons_zero, List.set_cons_succ]); try exact rfl
      apply al_end
      · (try dsimp only [putT, List.set_cons_zero, List.set_cons_succ]); try exact rfl
      refine then_normal ?_
      refine aw_seq ?_
      refine aw_seq ?_
      refine aw_region ?_
      apply al_stepN
      · exact op_move_tmp (by rfl)
      · rfl
      · (try dsimp only [putT, List.set_cons_zero, List.set_cons_succ]); try exact rfl
      apply al_stepN
      · exact op_neI (by rfl) (by rfl)
      · rfl
      · (try dsimp only [putT, List.set_cons_zero, List.set_cons_succ]); try exact rfl
      apply al_end
      · (try dsimp only [putT, List.set_cons_zero, List.set_cons_succ]); try exact rfl
      refine then_normal ?_
      refine aw_cond rfl (fun hc25 => ?_) (fun hc25 => ?_)
      · skip
        (try simp only [decide_eq_true_eq, decide_eq_false_iff_not, beq_iff_eq, beq_eq_false_iff_ne, Bool.not_eq_true', Bool.not_eq_false', bne_iff_ne, ne_eq, Decidable.not_not, bne_eq_false_iff_eq, List.length_map] at hc25)
        have hpn := parts_none hc25
        refine aw_seq ?_
        refine aw_region ?_
        apply al_stepN
        · exact op_move_tmp (by rfl)
        · rfl
        · (try dsimp only [putT, List.set_cons_zero, List.set_cons_succ]); try exact rfl
        apply al_stepN
        · exact op_eqI (by rfl) (by rfl)
        · rfl
        · (try dsimp only [putT, List.set_cons_zero, List.set_cons_succ]); try exact rfl
        apply al_stepN
        · exact op_move_tmp (by rfl)
        · rfl
        · (try dsimp only [putT, List.set_cons_zero, List.set_cons_succ]); try exact rfl
        refine al_split 98 rfl (fun hg26 => ?_) (fun hg26 => ?_)
        · skip
          (try simp only [decide_eq_true_eq, decide_eq_false_iff_not, beq_iff_eq, beq_eq_false_iff_ne, Bool.not_eq_true', Bool.not_eq_false', bne_iff_ne, ne_eq, Decidable.not_not, bne_eq_false_iff_eq, List.length_map] at hg26)
          apply al_normT
          · (try dsimp only [putT, List.set_cons_zero, List.set_cons_succ]); try exact rfl
          apply al_wantedN
          · rfl
          · rfl
          · rfl
          · exact op_move_tmp (by rfl)
          · (try dsimp only [putT, List.set_cons_zero, List.set_cons_succ]); try exact rfl
          apply al_wantedN
          · rfl
          · rfl
          · rfl
          · exact op_lenL Try.underlying32 (by first | exact LL.d _ _ | exact LL.own _ _ _ | exact LL.nil _ | assumption)
          · (try dsimp only [putT, List.set_cons_zero, List.set_cons_succ]); try exact rfl
          apply al_wantedN
          · rfl
          · rfl
          · rfl
          · exact op_eqI (by rfl) (by rfl)
          · (try dsimp only [putT, List.set_cons_zero, List.set_cons_succ]); try exact rfl
          apply al_stepN
          · exact op_pick_tt (by rfl) (val_tmp (by rfl))
          · rfl
          · (try dsimp only [putT, List.set_cons_zero, List.set_cons_succ]); try exact rfl
          apply al_stepN
          · exact op_assign_tmp (by rfl)
          · rfl
          · (try dsimp only [putT, List.set_cons_zero, List.set_cons_succ]); try exact rfl
          apply al_end
          · (try dsimp only [putT, List.set_cons_zero, List.set_cons_succ]); try exact rfl
          refine then_normal ?_
          refine aw_ret ?_
          refine then_ret ?_
          refine retPost1 rfl rfl ?_
          first | exact rfl | (simp [partsA, hpn, TF]; done) | (simp [hpb, TF]; done)
        · skip
          (try simp only [decide_eq_true_eq, decide_eq_false_iff_not, beq_iff_eq, beq_eq_false_iff_ne, Bool.not_eq_true', Bool.not_eq_false', bne_iff_ne, ne_eq, Decidable.not_not, bne_eq_false_iff_eq, List.length_map] at hg26)
          apply al_normT
          · (try dsimp only [putT, List.set_cons_zero, List.set_cons_succ]); try exact rfl
          exact absurd (by simp [partsE, hpn]) hg26
      · skip
        (try simp only [decide_eq_true_eq, decide_eq_false_iff_not, beq_iff_eq, beq_eq_false_iff_ne, Bool.not_eq_true', Bool.not_eq_false', bne_iff_ne, ne_eq, Decidable.not_not, bne_eq_false_iff_eq, List.length_map] at hc25)
        have hpb := parts_back hc25
        have hge := keyL_ge (partsA k)
        rw [hpb] at hge
        refine aw_skip ?_
        refine then_normal ?_
        refine aw_seq ?_
        refine aw_region ?_
        apply al_stepN
        · exact op_move_tmp (by rfl)
        · rfl
        · (try dsimp only [putT, List.set_cons_zero, List.set_cons_succ]); try exact rfl
        apply al_stepN
        · exact op_callF Try.func17 (by rfl) (by rfl) (.tmp (by rfl) .nil) (key_ok _ _ (partsA k) (LL.d _ _) (by omega))
        · rfl
        · (try dsimp only [putT, List.set_cons_zero, List.set_cons_succ]); try exact rfl
        apply al_stepN
        · exact op_move_tmp (by rfl)
        · rfl
        · (try dsimp only [putT, List.set_cons_zero, List.set_cons_succ]); try exact rfl
        apply al_stepN
        · exact op_eqS (by rfl) (by rfl)
        · rfl
        · (try dsimp only [putT, List.set_cons_zero, List.set_cons_succ]); try exact rfl
        apply al_stepN
        · exact op_assign_tmp (by rfl)
        · rfl
        · (try dsimp only [putT, List.set_cons_zero, List.set_cons_succ]); try exact rfl
        apply al_end
        · (try dsimp only [putT, List.set_cons_zero, List.set_cons_succ]); try exact rfl
        refine then_normal ?_
        refine aw_ret ?_
        refine retPost1 rfl rfl ?_
        first | exact rfl | (simp [partsA, hpn, TF]; done) | (simp [hpb, TF]; done)
end Go.Proofs.Ytlphmahlchgafaa
