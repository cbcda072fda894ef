/- What the law OrdInts comes to. -/
import Derived.Test.YtlphmahlchgafaaOrdW
import Derived.Test.YtlphmahlchgafaaOrdPlain2
import Derived.Test.YtlphmahlchgafaaA11
import Derived.KernelRfl
namespace Go.Proofs.Ytlphmahlchgafaa
open Go.AV Go.AV.Ord
set_option linter.unusedVariables false
set_option linter.unusedSimpArgs false
set_option maxRecDepth 100000 in
theorem ordInts_walk (Hs : HS) (a b : Int) (ha : i64 a) (hb : i64 b) (s : List UInt8) : ACalls Try.prog 7 [.d (I a), .d (I b), .d (S s)] Hs (fun av _ => av = .d (TF true)) := by
  refine acalls_of_aw Try.func7 rfl ?_
  refine aw_start (T' := ((.d (I a)) :: (.d (I b)) :: (.d (S s)) :: .un :: .un :: .un :: .un :: .un :: .un :: .un :: .un :: .un :: .un :: .un :: .un :: .un :: .un :: .un :: .un :: .un :: .un :: .un :: .un :: .un :: .un :: .un :: .un :: .un :: .un :: .un :: .un :: .un :: .un :: .un :: .un :: .un :: .un :: .un :: .un :: .un :: .un :: .un :: .un :: .un :: .un :: .un :: .un :: .un :: .un :: .un :: .un :: .un :: .un :: .un :: .un :: .un :: .un :: .un :: .un :: .un :: .un :: .un :: .un :: .un :: .un :: .un :: .un :: .un :: .un :: .un :: .un :: .un :: .un :: .un :: .un :: .un :: .un :: .un :: .un :: .un :: .un :: .un :: .un :: .un :: [])) rfl ?_
  refine aw_seq ?_
  refine aw_region ?_
  apply al_stepN
  · exact op_assign_const (by rfl)
  · rfl
  · (try dsimp only [putT, List.set_cons_zero, List.set_cons_succ]); try exact rfl
  apply al_end
  · (try dsimp only [putT, List.set_cons_zero, List.set_cons_succ]); try exact rfl
  refine then_normal ?_
  refine aw_seq ?_
  refine aw_seq ?_
  refine aw_region ?_
  apply al_stepN
  · exact op_callF Try.func11 (by rfl) (by rfl) .nil (head_ok _)
  · rfl
  · (try dsimp only [putT, List.set_cons_zero, List.set_cons_succ]); try exact rfl
  apply al_stepN
  · exact op_not (by rfl)
  · rfl
  · (try dsimp only [putT, List.set_cons_zero, List.set_cons_succ]); try exact rfl
  apply al_end
  · (try dsimp only [putT, List.set_cons_zero, List.set_cons_succ]); try exact rfl
  refine then_normal ?_
  refine aw_cond rfl (fun hc1 => ?_) (fun hc1 => ?_)
  · skip
    (try simp only [decide_eq_true_eq, decide_eq_false_iff_not, beq_iff_eq, beq_eq_false_iff_ne, Bool.not_eq_true', Bool.not_eq_false', bne_iff_ne, ne_eq, Decidable.not_not, bne_eq_false_iff_eq, List.length_map] at hc1)
    exact absurd hc1 (by decide)
  · skip
    (try simp only [decide_eq_true_eq, decide_eq_false_iff_not, beq_iff_eq, beq_eq_false_iff_ne, Bool.not_eq_true', Bool.not_eq_false', bne_iff_ne, ne_eq, Decidable.not_not, bne_eq_false_iff_eq, List.length_map] at hc1)
    refine aw_skip ?_
    refine then_normal ?_
    refine aw_seq ?_
    refine aw_seq ?_
    refine aw_region ?_
    apply al_stepN
    · exact op_move_tmp (by rfl)
    · rfl
    · (try dsimp only [putT, List.set_cons_zero, List.set_cons_succ]); try exact rfl
    apply al_stepN
    · exact op_lenS Try.underlying9 (by rfl)
    · rfl
    · (try dsimp only [putT, List.set_cons_zero, List.set_cons_succ]); try exact rfl
    apply al_stepN
    · exact op_gtI (by rfl) (by rfl)
    · rfl
    · (try dsimp only [putT, List.set_cons_zero, List.set_cons_succ]); try exact rfl
    apply al_end
    · (try dsimp only [putT, List.set_cons_zero, List.set_cons_succ]); try exact rfl
    refine then_normal ?_
    refine aw_cond rfl (fun hc2 => ?_) (fun hc2 => ?_)
    · skip
      (try simp only [decide_eq_true_eq, decide_eq_false_iff_not, beq_iff_eq, beq_eq_false_iff_ne, Bool.not_eq_true', Bool.not_eq_false', bne_iff_ne, ne_eq, Decidable.not_not, bne_eq_false_iff_eq, List.length_map] at hc2)
      refine aw_seq ?_
      refine aw_region ?_
      apply al_stepN
      · exact op_assign_const (by rfl)
      · rfl
      · (try dsimp only [putT, List.set_cons_zero, List.set_cons_succ]); try exact rfl
      apply al_end
      · (try dsimp only [putT, List.set_cons_zero, List.set_cons_succ]); try exact rfl
      refine then_normal ?_
      refine aw_ret ?_
      refine then_ret ?_
      refine retPost1 rfl rfl ?_
      first | exact rfl | simp [numL_zero (by assumption), TF]
    · skip
      (try simp only [decide_eq_true_eq, decide_eq_false_iff_not, beq_iff_eq, beq_eq_false_iff_ne, Bool.not_eq_true', Bool.not_eq_false', bne_iff_ne, ne_eq, Decidable.not_not, bne_eq_false_iff_eq, List.length_map] at hc2)
      refine aw_skip ?_
      refine then_normal ?_
      refine aw_seq ?_
      refine aw_region ?_
      apply al_stepN
      · exact op_move_tmp (by rfl)
      · rfl
      · (try dsimp only [putT, List.set_cons_zero, List.set_cons_succ]); try exact rfl
      apply al_stepN
      · exact op_callF Try.func14 (by rfl) (by rfl) (.const (by rfl) (.tmp (by rfl) .nil)) (int_ok _ none _ [] a (App.nil _) (HS.ok_none _ _) ha (by simp))
      · rfl
      · (try dsimp only [putT, List.set_cons_zero, List.set_cons_succ]); try exact rfl
      apply al_stepN
      · exact op_string Try.underlying22 Try.underlying9 Try.underlying5 (LL.own _ _ _) (by rfl)
      · rfl
      · (try dsimp only [putT, List.set_cons_zero, List.set_cons_succ]); try exact rfl
      apply al_stepN
      · exact op_assign_tmp (by rfl)
      · rfl
      · (try dsimp only [putT, List.set_cons_zero, List.set_cons_succ]); try exact rfl
      apply al_end
      · (try dsimp only [putT, List.set_cons_zero, List.set_cons_succ]); try exact rfl
      refine then_normal ?_
      refine aw_seq ?_
      refine aw_region ?_
      apply al_stepN
      · exact op_move_tmp (by rfl)
      · rfl
      · (try dsimp only [putT, List.set_cons_zero, List.set_cons_succ]); try exact rfl
      apply al_stepN
      · exact op_callF Try.func14 (by rfl) (by rfl) (.const (by rfl) (.tmp (by rfl) .nil)) (int_ok _ none _ [] b (App.nil _) (HS.ok_none _ _) hb (by simp))
      · rfl
      · (try dsimp only [putT, List.set_cons_zero, List.set_cons_succ]); try exact rfl
      apply al_stepN
      · exact op_string Try.underlying22 Try.underlying9 Try.underlying5 (LL.own _ _ _) (by rfl)
      · rfl
      · (try dsimp only [putT, List.set_cons_zero, List.set_cons_succ]); try exact rfl
      apply al_stepN
      · exact op_assign_tmp (by rfl)
      · rfl
      · (try dsimp only [putT, List.set_cons_zero, List.set_cons_succ]); try exact rfl
      apply al_end
      · (try dsimp only [putT, List.set_cons_zero, List.set_cons_succ]); try exact rfl
      refine then_normal ?_
      refine aw_seq ?_
      refine aw_region ?_
      apply al_stepN
      · exact op_assign_const (by rfl)
      · rfl
      · (try dsimp only [putT, List.set_cons_zero, List.set_cons_succ]); try exact rfl
      apply al_end
      · (try dsimp only [putT, List.set_cons_zero, List.set_cons_succ]); try exact rfl
      refine then_normal ?_
      refine aw_seq ?_
      refine aw_seq ?_
      refine aw_region ?_
      apply al_stepN
      · exact op_move_tmp (by rfl)
      · rfl
      · (try dsimp only [putT, List.set_cons_zero, List.set_cons_succ]); try exact rfl
      apply al_stepN
      · exact op_move_tmp (by rfl)
      · rfl
      · (try dsimp only [putT, List.set_cons_zero, List.set_cons_succ]); try exact rfl
      apply al_stepN
      · exact op_ltI (by rfl) (by rfl)
      · rfl
      · (try dsimp only [putT, List.set_cons_zero, List.set_cons_succ]); try exact rfl
      apply al_end
      · (try dsimp only [putT, List.set_cons_zero, List.set_cons_succ]); try exact rfl
      refine then_normal ?_
      refine aw_cond rfl (fun hc3 => ?_) (fun hc3 => ?_)
      · skip
        (try simp only [decide_eq_true_eq, decide_eq_false_iff_not, beq_iff_eq, beq_eq_false_iff_ne, Bool.not_eq_true', Bool.not_eq_false', bne_iff_ne, ne_eq, Decidable.not_not, bne_eq_false_iff_eq, List.length_map] at hc3)
        have hlt : a < b := hc3
        refine aw_region ?_
        apply al_stepN
        · exact op_assign_const (by rfl)
        · rfl
        · (try dsimp only [putT, List.set_cons_zero, List.set_cons_succ]); try exact rfl
        apply al_end
        · (try dsimp only [putT, List.set_cons_zero, List.set_cons_succ]); try exact rfl
        refine then_normal ?_
        refine aw_seq ?_
        refine aw_seq ?_
        refine aw_region ?_
        apply al_stepN
        · exact op_move_tmp (by rfl)
        · rfl
        · (try dsimp only [putT, List.set_cons_zero, List.set_cons_succ]); try exact rfl
        apply al_stepN
        · exact op_move_tmp (by rfl)
        · rfl
        · (try dsimp only [putT, List.set_cons_zero, List.set_cons_succ]); try exact rfl
        apply al_stepN
        · exact op_gtI (by rfl) (by rfl)
        · rfl
        · (try dsimp only [putT, List.set_cons_zero, List.set_cons_succ]); try exact rfl
        apply al_end
        · (try dsimp only [putT, List.set_cons_zero, List.set_cons_succ]); try exact rfl
        refine then_normal ?_
        refine aw_cond rfl (fun hc4 => ?_) (fun hc4 => ?_)
        · skip
          (try simp only [decide_eq_true_eq, decide_eq_false_iff_not, beq_iff_eq, beq_eq_false_iff_ne, Bool.not_eq_true', Bool.not_eq_false', bne_iff_ne, ne_eq, Decidable.not_not, bne_eq_false_iff_eq, List.length_map] at hc4)
          have hgt : b < a := hc4
          refine aw_region ?_
          apply al_stepN
          · exact op_assign_const (by rfl)
          · rfl
          · (try dsimp only [putT, List.set_cons_zero, List.set_cons_succ]); try exact rfl
          apply al_end
          · (try dsimp only [putT, List.set_cons_zero, List.set_cons_succ]); try exact rfl
          refine then_normal ?_
          refine aw_seq ?_
          refine aw_region ?_
          apply al_stepN
          · exact op_move_tmp (by rfl)
          · rfl
          · (try dsimp only [putT, List.set_cons_zero, List.set_cons_succ]); try exact rfl
          apply al_stepN
          · exact op_callF Try.func18 (by rfl) (by rfl) (.tmp (by rfl) .nil) (number_ok _ _)
          · rfl
          · (try dsimp only [putT, List.set_cons_zero, List.set_cons_succ]); try exact rfl
          apply al_stepN
          · exact op_move_tmp (by rfl)
          · rfl
          · (try dsimp only [putT, List.set_cons_zero, List.set_cons_succ]); try exact rfl
          apply al_stepN
          · exact op_extract (by rfl) (by rfl)
          · rfl
          · (try dsimp only [putT, List.set_cons_zero, List.set_cons_succ]); try exact rfl
          apply al_stepN
          · exact op_extract (by rfl) (by rfl)
          · rfl
          · (try dsimp only [putT, List.set_cons_zero, List.set_cons_succ]); try exact rfl
          apply al_stepN
          · exact op_assign_tmp (by rfl)
          · rfl
          · (try dsimp only [putT, List.set_cons_zero, List.set_cons_succ]); try exact rfl
          apply al_stepN
          · exact op_assign_tmp (by rfl)
          · rfl
          · (try dsimp only [putT, List.set_cons_zero, List.set_cons_succ]); try exact rfl
          apply al_end
          · (try dsimp only [putT, List.set_cons_zero, List.set_cons_succ]); try exact rfl
          refine then_normal ?_
          refine aw_seq ?_
          refine aw_region ?_
          apply al_stepN
          · exact op_move_tmp (by rfl)
          · rfl
          · (try dsimp only [putT, List.set_cons_zero, List.set_cons_succ]); try exact rfl
          apply al_stepN
          · exact op_callF Try.func18 (by rfl) (by rfl) (.tmp (by rfl) .nil) (number_ok _ _)
          · rfl
          · (try dsimp only [putT, List.set_cons_zero, List.set_cons_succ]); try exact rfl
          apply al_stepN
          · exact op_move_tmp (by rfl)
          · rfl
          · (try dsimp only [putT, List.set_cons_zero, List.set_cons_succ]); try exact rfl
          apply al_stepN
          · exact op_extract (by rfl) (by rfl)
          · rfl
          · (try dsimp only [putT, List.set_cons_zero, List.set_cons_succ]); try exact rfl
          apply al_stepN
          · exact op_extract (by rfl) (by rfl)
          · rfl
          · (try dsimp only [putT, List.set_cons_zero, List.set_cons_succ]); try exact rfl
          apply al_stepN
          · exact op_assign_tmp (by rfl)
          · rfl
          · (try dsimp only [putT, List.set_cons_zero, List.set_cons_succ]); try exact rfl
          apply al_stepN
          · exact op_assign_tmp (by rfl)
          · rfl
          · (try dsimp only [putT, List.set_cons_zero, List.set_cons_succ]); try exact rfl
          apply al_end
          · (try dsimp only [putT, List.set_cons_zero, List.set_cons_succ]); try exact rfl
          refine then_normal ?_
          refine aw_seq ?_
          refine aw_region ?_
          apply al_stepN
          · exact op_move_tmp (by rfl)
          · rfl
          · (try dsimp only [putT, List.set_cons_zero, List.set_cons_succ]); try exact rfl
          apply al_stepN
          · exact op_lenS Try.underlying9 (by rfl)
          · rfl
          · (try dsimp only [putT, List.set_cons_zero, List.set_cons_succ]); try exact rfl
          apply al_stepN
          · exact op_eqI (by rfl) (by rfl)
          · rfl
          · (try dsimp only [putT, List.set_cons_zero, List.set_cons_succ]); try exact rfl
          apply al_stepN
          · exact op_move_tmp (by rfl)
          · rfl
          · (try dsimp only [putT, List.set_cons_zero, List.set_cons_succ]); try exact rfl
          refine al_split 44 rfl (fun hg5 => ?_) (fun hg5 => ?_)
          · skip
            (try simp only [decide_eq_true_eq, decide_eq_false_iff_not, beq_iff_eq, beq_eq_false_iff_ne, Bool.not_eq_true', Bool.not_eq_false', bne_iff_ne, ne_eq, Decidable.not_not, bne_eq_false_iff_eq, List.length_map] at hg5)
            apply al_normT
            · (try dsimp only [putT, List.set_cons_zero, List.set_cons_succ]); try exact rfl
            apply al_wantedN
            · rfl
            · rfl
            · rfl
            · exact op_move_tmp (by rfl)
            · (try dsimp only [putT, List.set_cons_zero, List.set_cons_succ]); try exact rfl
            apply al_wantedN
            · rfl
            · rfl
            · rfl
            · exact op_move_tmp (by rfl)
            · (try dsimp only [putT, List.set_cons_zero, List.set_cons_succ]); try exact rfl
            apply al_wantedN
            · rfl
            · rfl
            · rfl
            · exact op_callF Try.func13 (by rfl) (by rfl) (.tmp (by rfl) (.tmp (by rfl) .nil)) (by_ok _ _ _)
            · (try dsimp only [putT, List.set_cons_zero, List.set_cons_succ]); try exact rfl
            apply al_wantedN
            · rfl
            · rfl
            · rfl
            · exact op_move_tmp (by rfl)
            · (try dsimp only [putT, List.set_cons_zero, List.set_cons_succ]); try exact rfl
            apply al_wantedN
            · rfl
            · rfl
            · rfl
            · exact op_eqI (by rfl) (by rfl)
            · (try dsimp only [putT, List.set_cons_zero, List.set_cons_succ]); try exact rfl
            apply al_stepN
            · exact op_pick_tt (by rfl) (val_tmp (by rfl))
            · rfl
            · (try dsimp only [putT, List.set_cons_zero, List.set_cons_succ]); try exact rfl
            apply al_stepN
            · exact op_move_tmp (by rfl)
            · rfl
            · (try dsimp only [putT, List.set_cons_zero, List.set_cons_succ]); try exact rfl
            refine al_split 51 rfl (fun hg6 => ?_) (fun hg6 => ?_)
            · skip
              (try simp only [decide_eq_true_eq, decide_eq_false_iff_not, beq_iff_eq, beq_eq_false_iff_ne, Bool.not_eq_true', Bool.not_eq_false', bne_iff_ne, ne_eq, Decidable.not_not, bne_eq_false_iff_eq, List.length_map] at hg6)
              apply al_normT
              · (try dsimp only [putT, List.set_cons_zero, List.set_cons_succ]); try exact rfl
              apply al_wantedN
              · rfl
              · rfl
              · rfl
              · exact op_move_tmp (by rfl)
              · (try dsimp only [putT, List.set_cons_zero, List.set_cons_succ]); try exact rfl
              apply al_stepN
              · exact op_pick_tt (by rfl) (val_tmp (by rfl))
              · rfl
              · (try dsimp only [putT, List.set_cons_zero, List.set_cons_succ]); try exact rfl
              apply al_stepN
              · exact op_move_tmp (by rfl)
              · rfl
              · (try dsimp only [putT, List.set_cons_zero, List.set_cons_succ]); try exact rfl
              refine al_split 54 rfl (fun hg7 => ?_) (fun hg7 => ?_)
              · skip
                (try simp only [decide_eq_true_eq, decide_eq_false_iff_not, beq_iff_eq, beq_eq_false_iff_ne, Bool.not_eq_true', Bool.not_eq_false', bne_iff_ne, ne_eq, Decidable.not_not, bne_eq_false_iff_eq, List.length_map] at hg7)
                apply al_normT
                · (try dsimp only [putT, List.set_cons_zero, List.set_cons_succ]); try exact rfl
                apply al_wantedN
                · rfl
                · rfl
                · rfl
                · exact op_move_tmp (by rfl)
                · (try dsimp only [putT, List.set_cons_zero, List.set_cons_succ]); try exact rfl
                apply al_wantedN
                · rfl
                · rfl
                · rfl
                · exact op_move_tmp (by rfl)
                · (try dsimp only [putT, List.set_cons_zero, List.set_cons_succ]); try exact rfl
                apply al_wantedN
                · rfl
                · rfl
                · rfl
                · exact op_eqI (by rfl) (by rfl)
                · (try dsimp only [putT, List.set_cons_zero, List.set_cons_succ]); try exact rfl
                apply al_stepN
                · exact op_pick_tt (by rfl) (val_tmp (by rfl))
                · rfl
                · (try dsimp only [putT, List.set_cons_zero, List.set_cons_succ]); try exact rfl
                apply al_stepN
                · exact op_move_tmp (by rfl)
                · rfl
                · (try dsimp only [putT, List.set_cons_zero, List.set_cons_succ]); try exact rfl
                refine al_split 59 rfl (fun hg8 => ?_) (fun hg8 => ?_)
                · skip
                  (try simp only [decide_eq_true_eq, decide_eq_false_iff_not, beq_iff_eq, beq_eq_false_iff_ne, Bool.not_eq_true', Bool.not_eq_false', bne_iff_ne, ne_eq, Decidable.not_not, bne_eq_false_iff_eq, List.length_map] at hg8)
                  apply al_normT
                  · (try dsimp only [putT, List.set_cons_zero, List.set_cons_succ]); try exact rfl
                  apply al_wantedN
                  · rfl
                  · rfl
                  · rfl
                  · exact op_move_tmp (by rfl)
                  · (try dsimp only [putT, List.set_cons_zero, List.set_cons_succ]); try exact rfl
                  apply al_wantedN
                  · rfl
                  · rfl
                  · rfl
                  · exact op_move_tmp (by rfl)
                  · (try dsimp only [putT, List.set_cons_zero, List.set_cons_succ]); try exact rfl
                  apply al_wantedN
                  · rfl
                  · rfl
                  · rfl
                  · exact op_lenS Try.underlying9 (by rfl)
                  · (try dsimp only [putT, List.set_cons_zero, List.set_cons_succ]); try exact rfl
                  apply al_wantedN
                  · rfl
                  · rfl
                  · rfl
                  · exact op_eqI (by rfl) (by rfl)
                  · (try dsimp only [putT, List.set_cons_zero, List.set_cons_succ]); try exact rfl
                  apply al_wantedN
                  · rfl
                  · rfl
                  · rfl
                  · exact op_eqB Try.underlying4 (by rfl) (by rfl)
                  · (try dsimp only [putT, List.set_cons_zero, List.set_cons_succ]); try exact rfl
                  apply al_stepN
                  · exact op_pick_tt (by rfl) (val_tmp (by rfl))
                  · rfl
                  · (try dsimp only [putT, List.set_cons_zero, List.set_cons_succ]); try exact rfl
                  apply al_stepN
                  · exact op_move_tmp (by rfl)
                  · rfl
                  · (try dsimp only [putT, List.set_cons_zero, List.set_cons_succ]); try exact rfl
                  refine al_split 66 rfl (fun hg9 => ?_) (fun hg9 => ?_)
                  · skip
                    (try simp only [decide_eq_true_eq, decide_eq_false_iff_not, beq_iff_eq, beq_eq_false_iff_ne, Bool.not_eq_true', Bool.not_eq_false', bne_iff_ne, ne_eq, Decidable.not_not, bne_eq_false_iff_eq, List.length_map] at hg9)
                    apply al_normT
                    · (try dsimp only [putT, List.set_cons_zero, List.set_cons_succ]); try exact rfl
                    apply al_wantedN
                    · rfl
                    · rfl
                    · rfl
                    · exact op_move_tmp (by rfl)
                    · (try dsimp only [putT, List.set_cons_zero, List.set_cons_succ]); try exact rfl
                    apply al_wantedN
                    · rfl
                    · rfl
                    · rfl
                    · exact op_not (by rfl)
                    · (try dsimp only [putT, List.set_cons_zero, List.set_cons_succ]); try exact rfl
                    apply al_wantedN
                    · rfl
                    · rfl
                    · rfl
                    · exact op_move_tmp (by rfl)
                    · (try dsimp only [putT, List.set_cons_zero, List.set_cons_succ]); try exact rfl
                    refine al_split 69 rfl (fun hg10 => ?_) (fun hg10 => ?_)
                    · skip
                      (try simp only [decide_eq_true_eq, decide_eq_false_iff_not, beq_iff_eq, beq_eq_false_iff_ne, Bool.not_eq_true', Bool.not_eq_false', bne_iff_ne, ne_eq, Decidable.not_not, bne_eq_false_iff_eq, List.length_map] at hg10)
                      apply al_normT
                      · (try dsimp only [putT, List.set_cons_zero, List.set_cons_succ]); try exact rfl
                      refine al_unwanted rfl rfl rfl rfl ?_
                      apply al_normT
                      · (try dsimp only [putT, List.set_cons_zero, List.set_cons_succ]); try exact rfl
                      refine al_unwanted rfl rfl rfl rfl ?_
                      apply al_normT
                      · (try dsimp only [putT, List.set_cons_zero, List.set_cons_succ]); try exact rfl
                      refine al_unwanted rfl rfl rfl rfl ?_
                      apply al_normT
                      · (try dsimp only [putT, List.set_cons_zero, List.set_cons_succ]); try exact rfl
                      refine al_unwanted rfl rfl rfl rfl ?_
                      apply al_normT
                      · (try dsimp only [putT, List.set_cons_zero, List.set_cons_succ]); try exact rfl
                      refine al_unwanted rfl rfl rfl rfl ?_
                      apply al_normT
                      · (try dsimp only [putT, List.set_cons_zero, List.set_cons_succ]); try exact rfl
                      apply al_wantedN
                      · rfl
                      · rfl
                      · rfl
                      · exact op_pick_tt (by rfl) (val_const (by rfl))
                      · (try dsimp only [putT, List.set_cons_zero, List.set_cons_succ]); try exact rfl
                      apply al_stepN
                      · exact op_pick_tt (by rfl) (val_tmp (by rfl))
                      · rfl
                      · (try dsimp only [putT, List.set_cons_zero, List.set_cons_succ]); try exact rfl
                      apply al_stepN
                      · exact op_move_tmp (by rfl)
                      · rfl
                      · (try dsimp only [putT, List.set_cons_zero, List.set_cons_succ]); try exact rfl
                      apply al_wantedN
                      · rfl
                      · rfl
                      · rfl
                      · exact op_move_tmp (by rfl)
                      · (try dsimp only [putT, List.set_cons_zero, List.set_cons_succ]); try exact rfl
                      apply al_wantedN
                      · rfl
                      · rfl
                      · rfl
                      · exact op_move_tmp (by rfl)
                      · (try dsimp only [putT, List.set_cons_zero, List.set_cons_succ]); try exact rfl
                      refine al_split 79 rfl (fun hg11 => ?_) (fun hg11 => ?_)
                      · skip
                        (try simp only [decide_eq_true_eq, decide_eq_false_iff_not, beq_iff_eq, beq_eq_false_iff_ne, Bool.not_eq_true', Bool.not_eq_false', bne_iff_ne, ne_eq, Decidable.not_not, bne_eq_false_iff_eq, List.length_map] at hg11)
                        apply al_normT
                        · (try dsimp only [putT, List.set_cons_zero, List.set_cons_succ]); try exact rfl
                        refine al_unwanted rfl rfl rfl rfl ?_
                        apply al_normT
                        · (try dsimp only [putT, List.set_cons_zero, List.set_cons_succ]); try exact rfl
                        refine al_unwanted rfl rfl rfl rfl ?_
                        apply al_normT
                        · (try dsimp only [putT, List.set_cons_zero, List.set_cons_succ]); try exact rfl
                        apply al_wantedN
                        · rfl
                        · rfl
                        · rfl
                        · exact op_pick_tt (by rfl) (val_const (by rfl))
                        · (try dsimp only [putT, List.set_cons_zero, List.set_cons_succ]); try exact rfl
                        apply al_stepN
                        · exact op_pick_tt (by rfl) (val_tmp (by rfl))
                        · rfl
                        · (try dsimp only [putT, List.set_cons_zero, List.set_cons_succ]); try exact rfl
                        apply al_stepN
                        · exact op_assign_tmp (by rfl)
                        · rfl
                        · (try dsimp only [putT, List.set_cons_zero, List.set_cons_succ]); try exact rfl
                        apply al_end
                        · (try dsimp only [putT, List.set_cons_zero, List.set_cons_succ]); try exact rfl
                        refine then_normal ?_
                        refine aw_ret ?_
                        refine retPost1 rfl rfl ?_
                        first | exact rfl | simp [numL_zero (by assumption), TF]
                      · skip
                        (try simp only [decide_eq_true_eq, decide_eq_false_iff_not, beq_iff_eq, beq_eq_false_iff_ne, Bool.not_eq_true', Bool.not_eq_false', bne_iff_ne, ne_eq, Decidable.not_not, bne_eq_false_iff_eq, List.length_map] at hg11)
                        apply al_normT
                        · (try dsimp only [putT, List.set_cons_zero, List.set_cons_succ]); try exact rfl
                        apply al_wantedN
                        · rfl
                        · rfl
                        · rfl
                        · exact op_move_tmp (by rfl)
                        · (try dsimp only [putT, List.set_cons_zero, List.set_cons_succ]); try exact rfl
                        apply al_wantedN
                        · rfl
                        · rfl
                        · rfl
                        · exact op_eqI (by rfl) (by rfl)
                        · (try dsimp only [putT, List.set_cons_zero, List.set_cons_succ]); try exact rfl
                        apply al_wantedN
                        · rfl
                        · rfl
                        · rfl
                        · exact op_pick_ff (by rfl) (val_tmp (by rfl))
                        · (try dsimp only [putT, List.set_cons_zero, List.set_cons_succ]); try exact rfl
                        apply al_stepN
                        · exact op_pick_tt (by rfl) (val_tmp (by rfl))
                        · rfl
                        · (try dsimp only [putT, List.set_cons_zero, List.set_cons_succ]); try exact rfl
                        apply al_stepN
                        · exact op_assign_tmp (by rfl)
                        · rfl
                        · (try dsimp only [putT, List.set_cons_zero, List.set_cons_succ]); try exact rfl
                        apply al_end
                        · (try dsimp only [putT, List.set_cons_zero, List.set_cons_succ]); try exact rfl
                        refine then_normal ?_
                        refine aw_ret ?_
                        refine retPost1 rfl rfl ?_
                        first | exact rfl | simp [numL_zero (by assumption), TF]
                    · skip
                      (try simp only [decide_eq_true_eq, decide_eq_false_iff_not, beq_iff_eq, beq_eq_false_iff_ne, Bool.not_eq_true', Bool.not_eq_false', bne_iff_ne, ne_eq, Decidable.not_not, bne_eq_false_iff_eq, List.length_map] at hg10)
                      apply al_normT
                      · (try dsimp only [putT, List.set_cons_zero, List.set_cons_succ]); try exact rfl
                      apply al_wantedN
                      · rfl
                      · rfl
                      · rfl
                      · exact op_move_tmp (by rfl)
                      · (try dsimp only [putT, List.set_cons_zero, List.set_cons_succ]); try exact rfl
                      apply al_wantedN
                      · rfl
                      · rfl
                      · rfl
                      · exact op_callF Try.func14 (by rfl) (by rfl) (.const (by rfl) (.tmp (by rfl) .nil)) (int_ok _ none _ [] (numL s).1 (App.nil _) (HS.ok_none _ _) (numL_i64 s) (by simp))
                      · (try dsimp only [putT, List.set_cons_zero, List.set_cons_succ]); try exact rfl
                      apply al_wantedN
                      · rfl
                      · rfl
                      · rfl
                      · exact op_string Try.underlying22 Try.underlying9 Try.underlying5 (LL.own _ _ _) (by rfl)
                      · (try dsimp only [putT, List.set_cons_zero, List.set_cons_succ]); try exact rfl
                      apply al_wantedN
                      · rfl
                      · rfl
                      · rfl
                      · exact op_move_tmp (by rfl)
                      · (try dsimp only [putT, List.set_cons_zero, List.set_cons_succ]); try exact rfl
                      apply al_wantedN
                      · rfl
                      · rfl
                      · rfl
                      · exact op_eqS (by rfl) (by rfl)
                      · (try dsimp only [putT, List.set_cons_zero, List.set_cons_succ]); try exact rfl
                      apply al_wantedN
                      · rfl
                      · rfl
                      · rfl
                      · exact op_pick_ff (by rfl) (val_tmp (by rfl))
                      · (try dsimp only [putT, List.set_cons_zero, List.set_cons_succ]); try exact rfl
                      apply al_stepN
                      · exact op_pick_tt (by rfl) (val_tmp (by rfl))
                      · rfl
                      · (try dsimp only [putT, List.set_cons_zero, List.set_cons_succ]); try exact rfl
                      apply al_stepN
                      · exact op_move_tmp (by rfl)
                      · rfl
                      · (try dsimp only [putT, List.set_cons_zero, List.set_cons_succ]); try exact rfl
                      refine al_split 77 rfl (fun hg12 => ?_) (fun hg12 => ?_)
                      · skip
                        (try simp only [decide_eq_true_eq, decide_eq_false_iff_not, beq_iff_eq, beq_eq_false_iff_ne, Bool.not_eq_true', Bool.not_eq_false', bne_iff_ne, ne_eq, Decidable.not_not, bne_eq_false_iff_eq, List.length_map] at hg12)
                        apply al_normT
                        · (try dsimp only [putT, List.set_cons_zero, List.set_cons_succ]); try exact rfl
                        apply al_wantedN
                        · rfl
                        · rfl
                        · rfl
                        · exact op_move_tmp (by rfl)
                        · (try dsimp only [putT, List.set_cons_zero, List.set_cons_succ]); try exact rfl
                        apply al_wantedN
                        · rfl
                        · rfl
                        · rfl
                        · exact op_move_tmp (by rfl)
                        · (try dsimp only [putT, List.set_cons_zero, List.set_cons_succ]); try exact rfl
                        refine al_split 79 rfl (fun hg13 => ?_) (fun hg13 => ?_)
                        · skip
                          (try simp only [decide_eq_true_eq, decide_eq_false_iff_not, beq_iff_eq, beq_eq_false_iff_ne, Bool.not_eq_true', Bool.not_eq_false', bne_iff_ne, ne_eq, Decidable.not_not, bne_eq_false_iff_eq, List.length_map] at hg13)
                          apply al_normT
                          · (try dsimp only [putT, List.set_cons_zero, List.set_cons_succ]); try exact rfl
                          refine al_unwanted rfl rfl rfl rfl ?_
                          apply al_normT
                          · (try dsimp only [putT, List.set_cons_zero, List.set_cons_succ]); try exact rfl
                          refine al_unwanted rfl rfl rfl rfl ?_
                          apply al_normT
                          · (try dsimp only [putT, List.set_cons_zero, List.set_cons_succ]); try exact rfl
                          apply al_wantedN
                          · rfl
                          · rfl
                          · rfl
                          · exact op_pick_tt (by rfl) (val_const (by rfl))
                          · (try dsimp only [putT, List.set_cons_zero, List.set_cons_succ]); try exact rfl
                          apply al_stepN
                          · exact op_pick_tt (by rfl) (val_tmp (by rfl))
                          · rfl
                          · (try dsimp only [putT, List.set_cons_zero, List.set_cons_succ]); try exact rfl
                          apply al_stepN
                          · exact op_assign_tmp (by rfl)
                          · rfl
                          · (try dsimp only [putT, List.set_cons_zero, List.set_cons_succ]); try exact rfl
                          apply al_end
                          · (try dsimp only [putT, List.set_cons_zero, List.set_cons_succ]); try exact rfl
                          refine then_normal ?_
                          refine aw_ret ?_
                          refine retPost1 rfl rfl ?_
                          first | exact rfl | simp [numL_zero (by assumption), TF]
                        · skip
                          (try simp only [decide_eq_true_eq, decide_eq_false_iff_not, beq_iff_eq, beq_eq_false_iff_ne, Bool.not_eq_true', Bool.not_eq_false', bne_iff_ne, ne_eq, Decidable.not_not, bne_eq_false_iff_eq, List.length_map] at hg13)
                          apply al_normT
                          · (try dsimp only [putT, List.set_cons_zero, List.set_cons_succ]); try exact rfl
                          apply al_wantedN
                          · rfl
                          · rfl
                          · rfl
                          · exact op_move_tmp (by rfl)
                          · (try dsimp only [putT, List.set_cons_zero, List.set_cons_succ]); try exact rfl
                          apply al_wantedN
                          · rfl
                          · rfl
                          · rfl
                          · exact op_eqI (by rfl) (by rfl)
                          · (try dsimp only [putT, List.set_cons_zero, List.set_cons_succ]); try exact rfl
                          apply al_wantedN
                          · rfl
                          · rfl
                          · rfl
                          · exact op_pick_ff (by rfl) (val_tmp (by rfl))
                          · (try dsimp only [putT, List.set_cons_zero, List.set_cons_succ]); try exact rfl
                          apply al_stepN
                          · exact op_pick_tt (by rfl) (val_tmp (by rfl))
                          · rfl
                          · (try dsimp only [putT, List.set_cons_zero, List.set_cons_succ]); try exact rfl
                          apply al_stepN
                          · exact op_assign_tmp (by rfl)
                          · rfl
                          · (try dsimp only [putT, List.set_cons_zero, List.set_cons_succ]); try exact rfl
                          apply al_end
                          · (try dsimp only [putT, List.set_cons_zero, List.set_cons_succ]); try exact rfl
                          refine then_normal ?_
                          refine aw_ret ?_
                          refine retPost1 rfl rfl ?_
                          first | exact rfl | simp [numL_zero (by assumption), TF]
                      · skip
                        (try simp only [decide_eq_true_eq, decide_eq_false_iff_not, beq_iff_eq, beq_eq_false_iff_ne, Bool.not_eq_true', Bool.not_eq_false', bne_iff_ne, ne_eq, Decidable.not_not, bne_eq_false_iff_eq, List.length_map] at hg12)
                        apply al_normT
                        · (try dsimp only [putT, List.set_cons_zero, List.set_cons_succ]); try exact rfl
                        exact absurd (numL_back (by assumption)) hg12
                  · skip
                    (try simp only [decide_eq_true_eq, decide_eq_false_iff_not, beq_iff_eq, beq_eq_false_iff_ne, Bool.not_eq_true', Bool.not_eq_false', bne_iff_ne, ne_eq, Decidable.not_not, bne_eq_false_iff_eq, List.length_map] at hg9)
                    apply al_normT
                    · (try dsimp only [putT, List.set_cons_zero, List.set_cons_succ]); try exact rfl
                    exact absurd (by rw [numL_ok, Bool.eq_iff_iff]; simp; omega) hg9
                · skip
                  (try simp only [decide_eq_true_eq, decide_eq_false_iff_not, beq_iff_eq, beq_eq_false_iff_ne, Bool.not_eq_true', Bool.not_eq_false', bne_iff_ne, ne_eq, Decidable.not_not, bne_eq_false_iff_eq, List.length_map] at hg8)
                  apply al_normT
                  · (try dsimp only [putT, List.set_cons_zero, List.set_cons_succ]); try exact rfl
                  exact absurd (by simp [numL_encI ha]) hg8
              · skip
                (try simp only [decide_eq_true_eq, decide_eq_false_iff_not, beq_iff_eq, beq_eq_false_iff_ne, Bool.not_eq_true', Bool.not_eq_false', bne_iff_ne, ne_eq, Decidable.not_not, bne_eq_false_iff_eq, List.length_map] at hg7)
                apply al_normT
                · (try dsimp only [putT, List.set_cons_zero, List.set_cons_succ]); try exact rfl
                simp [numL_encI ha] at hg7
            · skip
              (try simp only [decide_eq_true_eq, decide_eq_false_iff_not, beq_iff_eq, beq_eq_false_iff_ne, Bool.not_eq_true', Bool.not_eq_false', bne_iff_ne, ne_eq, Decidable.not_not, bne_eq_false_iff_eq, List.length_map] at hg6)
              apply al_normT
              · (try dsimp only [putT, List.set_cons_zero, List.set_cons_succ]); try exact rfl
              exact absurd (by rw [List.nil_append, List.nil_append, byL_encI ha hb]; (repeat' split) <;> omega) hg6
          · skip
            (try simp only [decide_eq_true_eq, decide_eq_false_iff_not, beq_iff_eq, beq_eq_false_iff_ne, Bool.not_eq_true', Bool.not_eq_false', bne_iff_ne, ne_eq, Decidable.not_not, bne_eq_false_iff_eq, List.length_map] at hg5)
            apply al_normT
            · (try dsimp only [putT, List.set_cons_zero, List.set_cons_succ]); try exact rfl
            exact absurd (by simp [encI_len]) hg5
        · skip
          (try simp only [decide_eq_true_eq, decide_eq_false_iff_not, beq_iff_eq, beq_eq_false_iff_ne, Bool.not_eq_true', Bool.not_eq_false', bne_iff_ne, ne_eq, Decidable.not_not, bne_eq_false_iff_eq, List.length_map] at hc4)
          have hle : ¬ b < a := hc4
          refine aw_skip ?_
          refine then_normal ?_
          refine aw_seq ?_
          refine aw_region ?_
          apply al_stepN
          · exact op_move_tmp (by rfl)
          · rfl
          · (try dsimp only [putT, List.set_cons_zero, List.set_cons_succ]); try exact rfl
          apply al_stepN
          · exact op_callF Try.func18 (by rfl) (by rfl) (.tmp (by rfl) .nil) (number_ok _ _)
          · rfl
          · (try dsimp only [putT, List.set_cons_zero, List.set_cons_succ]); try exact rfl
          apply al_stepN
          · exact op_move_tmp (by rfl)
          · rfl
          · (try dsimp only [putT, List.set_cons_zero, List.set_cons_succ]); try exact rfl
          apply al_stepN
          · exact op_extract (by rfl) (by rfl)
          · rfl
          · (try dsimp only [putT, List.set_cons_zero, List.set_cons_succ]); try exact rfl
          apply al_stepN
          · exact op_extract (by rfl) (by rfl)
          · rfl
          · (try dsimp only [putT, List.set_cons_zero, List.set_cons_succ]); try exact rfl
          apply al_stepN
          · exact op_assign_tmp (by rfl)
          · rfl
          · (try dsimp only [putT, List.set_cons_zero, List.set_cons_succ]); try exact rfl
          apply al_stepN
          · exact op_assign_tmp (by rfl)
          · rfl
          · (try dsimp only [putT, List.set_cons_zero, List.set_cons_succ]); try exact rfl
          apply al_end
          · (try dsimp only [putT, List.set_cons_zero, List.set_cons_succ]); try exact rfl
          refine then_normal ?_
          refine aw_seq ?_
          refine aw_region ?_
          apply al_stepN
          · exact op_move_tmp (by rfl)
          · rfl
          · (try dsimp only [putT, List.set_cons_zero, List.set_cons_succ]); try exact rfl
          apply al_stepN
          · exact op_callF Try.func18 (by rfl) (by rfl) (.tmp (by rfl) .nil) (number_ok _ _)
          · rfl
          · (try dsimp only [putT, List.set_cons_zero, List.set_cons_succ]); try exact rfl
          apply al_stepN
          · exact op_move_tmp (by rfl)
          · rfl
          · (try dsimp only [putT, List.set_cons_zero, List.set_cons_succ]); try exact rfl
          apply al_stepN
          · exact op_extract (by rfl) (by rfl)
          · rfl
          · (try dsimp only [putT, List.set_cons_zero, List.set_cons_succ]); try exact rfl
          apply al_stepN
          · exact op_extract (by rfl) (by rfl)
          · rfl
          · (try dsimp only [putT, List.set_cons_zero, List.set_cons_succ]); try exact rfl
          apply al_stepN
          · exact op_assign_tmp (by rfl)
          · rfl
          · (try dsimp only [putT, List.set_cons_zero, List.set_cons_succ]); try exact rfl
          apply al_stepN
          · exact op_assign_tmp (by rfl)
          · rfl
          · (try dsimp only [putT, List.set_cons_zero, List.set_cons_succ]); try exact rfl
          apply al_end
          · (try dsimp only [putT, List.set_cons_zero, List.set_cons_succ]); try exact rfl
          refine then_normal ?_
          refine aw_seq ?_
          refine aw_region ?_
          apply al_stepN
          · exact op_move_tmp (by rfl)
          · rfl
          · (try dsimp only [putT, List.set_cons_zero, List.set_cons_succ]); try exact rfl
          apply al_stepN
          · exact op_lenS Try.underlying9 (by rfl)
          · rfl
          · (try dsimp only [putT, List.set_cons_zero, List.set_cons_succ]); try exact rfl
          apply al_stepN
          · exact op_eqI (by rfl) (by rfl)
          · rfl
          · (try dsimp only [putT, List.set_cons_zero, List.set_cons_succ]); try exact rfl
          apply al_stepN
          · exact op_move_tmp (by rfl)
          · rfl
          · (try dsimp only [putT, List.set_cons_zero, List.set_cons_succ]); try exact rfl
          refine al_split 44 rfl (fun hg14 => ?_) (fun hg14 => ?_)
          · skip
            (try simp only [decide_eq_true_eq, decide_eq_false_iff_not, beq_iff_eq, beq_eq_false_iff_ne, Bool.not_eq_true', Bool.not_eq_false', bne_iff_ne, ne_eq, Decidable.not_not, bne_eq_false_iff_eq, List.length_map] at hg14)
            apply al_normT
            · (try dsimp only [putT, List.set_cons_zero, List.set_cons_succ]); try exact rfl
            apply al_wantedN
            · rfl
            · rfl
            · rfl
            · exact op_move_tmp (by rfl)
            · (try dsimp only [putT, List.set_cons_zero, List.set_cons_succ]); try exact rfl
            apply al_wantedN
            · rfl
            · rfl
            · rfl
            · exact op_move_tmp (by rfl)
            · (try dsimp only [putT, List.set_cons_zero, List.set_cons_succ]); try exact rfl
            apply al_wantedN
            · rfl
            · rfl
            · rfl
            · exact op_callF Try.func13 (by rfl) (by rfl) (.tmp (by rfl) (.tmp (by rfl) .nil)) (by_ok _ _ _)
            · (try dsimp only [putT, List.set_cons_zero, List.set_cons_succ]); try exact rfl
            apply al_wantedN
            · rfl
            · rfl
            · rfl
            · exact op_move_tmp (by rfl)
            · (try dsimp only [putT, List.set_cons_zero, List.set_cons_succ]); try exact rfl
            apply al_wantedN
            · rfl
            · rfl
            · rfl
            · exact op_eqI (by rfl) (by rfl)
            · (try dsimp only [putT, List.set_cons_zero, List.set_cons_succ]); try exact rfl
            apply al_stepN
            · exact op_pick_tt (by rfl) (val_tmp (by rfl))
            · rfl
            · (try dsimp only [putT, List.set_cons_zero, List.set_cons_succ]); try exact rfl
            apply al_stepN
            · exact op_move_tmp (by rfl)
            · rfl
            · (try dsimp only [putT, List.set_cons_zero, List.set_cons_succ]); try exact rfl
            refine al_split 51 rfl (fun hg15 => ?_) (fun hg15 => ?_)
            · skip
              (try simp only [decide_eq_true_eq, decide_eq_false_iff_not, beq_iff_eq, beq_eq_false_iff_ne, Bool.not_eq_true', Bool.not_eq_false', bne_iff_ne, ne_eq, Decidable.not_not, bne_eq_false_iff_eq, List.length_map] at hg15)
              apply al_normT
              · (try dsimp only [putT, List.set_cons_zero, List.set_cons_succ]); try exact rfl
              apply al_wantedN
              · rfl
              · rfl
              · rfl
              · exact op_move_tmp (by rfl)
              · (try dsimp only [putT, List.set_cons_zero, List.set_cons_succ]); try exact rfl
              apply al_stepN
              · exact op_pick_tt (by rfl) (val_tmp (by rfl))
              · rfl
              · (try dsimp only [putT, List.set_cons_zero, List.set_cons_succ]); try exact rfl
              apply al_stepN
              · exact op_move_tmp (by rfl)
              · rfl
              · (try dsimp only [putT, List.set_cons_zero, List.set_cons_succ]); try exact rfl
              refine al_split 54 rfl (fun hg16 => ?_) (fun hg16 => ?_)
              · skip
                (try simp only [decide_eq_true_eq, decide_eq_false_iff_not, beq_iff_eq, beq_eq_false_iff_ne, Bool.not_eq_true', Bool.not_eq_false', bne_iff_ne, ne_eq, Decidable.not_not, bne_eq_false_iff_eq, List.length_map] at hg16)
                apply al_normT
                · (try dsimp only [putT, List.set_cons_zero, List.set_cons_succ]); try exact rfl
                apply al_wantedN
                · rfl
                · rfl
                · rfl
                · exact op_move_tmp (by rfl)
                · (try dsimp only [putT, List.set_cons_zero, List.set_cons_succ]); try exact rfl
                apply al_wantedN
                · rfl
                · rfl
                · rfl
                · exact op_move_tmp (by rfl)
                · (try dsimp only [putT, List.set_cons_zero, List.set_cons_succ]); try exact rfl
                apply al_wantedN
                · rfl
                · rfl
                · rfl
                · exact op_eqI (by rfl) (by rfl)
                · (try dsimp only [putT, List.set_cons_zero, List.set_cons_succ]); try exact rfl
                apply al_stepN
                · exact op_pick_tt (by rfl) (val_tmp (by rfl))
                · rfl
                · (try dsimp only [putT, List.set_cons_zero, List.set_cons_succ]); try exact rfl
                apply al_stepN
                · exact op_move_tmp (by rfl)
                · rfl
                · (try dsimp only [putT, List.set_cons_zero, List.set_cons_succ]); try exact rfl
                refine al_split 59 rfl (fun hg17 => ?_) (fun hg17 => ?_)
                · skip
                  (try simp only [decide_eq_true_eq, decide_eq_false_iff_not, beq_iff_eq, beq_eq_false_iff_ne, Bool.not_eq_true', Bool.not_eq_false', bne_iff_ne, ne_eq, Decidable.not_not, bne_eq_false_iff_eq, List.length_map] at hg17)
                  apply al_normT
                  · (try dsimp only [putT, List.set_cons_zero, List.set_cons_succ]); try exact rfl
                  apply al_wantedN
                  · rfl
                  · rfl
                  · rfl
                  · exact op_move_tmp (by rfl)
                  · (try dsimp only [putT, List.set_cons_zero, List.set_cons_succ]); try exact rfl
                  apply al_wantedN
                  · rfl
                  · rfl
                  · rfl
                  · exact op_move_tmp (by rfl)
                  · (try dsimp only [putT, List.set_cons_zero, List.set_cons_succ]); try exact rfl
                  apply al_wantedN
                  · rfl
                  · rfl
                  · rfl
                  · exact op_lenS Try.underlying9 (by rfl)
                  · (try dsimp only [putT, List.set_cons_zero, List.set_cons_succ]); try exact rfl
                  apply al_wantedN
                  · rfl
                  · rfl
                  · rfl
                  · exact op_eqI (by rfl) (by rfl)
                  · (try dsimp only [putT, List.set_cons_zero, List.set_cons_succ]); try exact rfl
                  apply al_wantedN
                  · rfl
                  · rfl
                  · rfl
                  · exact op_eqB Try.underlying4 (by rfl) (by rfl)
                  · (try dsimp only [putT, List.set_cons_zero, List.set_cons_succ]); try exact rfl
                  apply al_stepN
                  · exact op_pick_tt (by rfl) (val_tmp (by rfl))
                  · rfl
                  · (try dsimp only [putT, List.set_cons_zero, List.set_cons_succ]); try exact rfl
                  apply al_stepN
                  · exact op_move_tmp (by rfl)
                  · rfl
                  · (try dsimp only [putT, List.set_cons_zero, List.set_cons_succ]); try exact rfl
                  refine al_split 66 rfl (fun hg18 => ?_) (fun hg18 => ?_)
                  · skip
                    (try simp only [decide_eq_true_eq, decide_eq_false_iff_not, beq_iff_eq, beq_eq_false_iff_ne, Bool.not_eq_true', Bool.not_eq_false', bne_iff_ne, ne_eq, Decidable.not_not, bne_eq_false_iff_eq, List.length_map] at hg18)
                    apply al_normT
                    · (try dsimp only [putT, List.set_cons_zero, List.set_cons_succ]); try exact rfl
                    apply al_wantedN
                    · rfl
                    · rfl
                    · rfl
                    · exact op_move_tmp (by rfl)
                    · (try dsimp only [putT, List.set_cons_zero, List.set_cons_succ]); try exact rfl
                    apply al_wantedN
                    · rfl
                    · rfl
                    · rfl
                    · exact op_not (by rfl)
                    · (try dsimp only [putT, List.set_cons_zero, List.set_cons_succ]); try exact rfl
                    apply al_wantedN
                    · rfl
                    · rfl
                    · rfl
                    · exact op_move_tmp (by rfl)
                    · (try dsimp only [putT, List.set_cons_zero, List.set_cons_succ]); try exact rfl
                    refine al_split 69 rfl (fun hg19 => ?_) (fun hg19 => ?_)
                    · skip
                      (try simp only [decide_eq_true_eq, decide_eq_false_iff_not, beq_iff_eq, beq_eq_false_iff_ne, Bool.not_eq_true', Bool.not_eq_false', bne_iff_ne, ne_eq, Decidable.not_not, bne_eq_false_iff_eq, List.length_map] at hg19)
                      apply al_normT
                      · (try dsimp only [putT, List.set_cons_zero, List.set_cons_succ]); try exact rfl
                      refine al_unwanted rfl rfl rfl rfl ?_
                      apply al_normT
                      · (try dsimp only [putT, List.set_cons_zero, List.set_cons_succ]); try exact rfl
                      refine al_unwanted rfl rfl rfl rfl ?_
                      apply al_normT
                      · (try dsimp only [putT, List.set_cons_zero, List.set_cons_succ]); try exact rfl
                      refine al_unwanted rfl rfl rfl rfl ?_
                      apply al_normT
                      · (try dsimp only [putT, List.set_cons_zero, List.set_cons_succ]); try exact rfl
                      refine al_unwanted rfl rfl rfl rfl ?_
                      apply al_normT
                      · (try dsimp only [putT, List.set_cons_zero, List.set_cons_succ]); try exact rfl
                      refine al_unwanted rfl rfl rfl rfl ?_
                      apply al_normT
                      · (try dsimp only [putT, List.set_cons_zero, List.set_cons_succ]); try exact rfl
                      apply al_wantedN
                      · rfl
                      · rfl
                      · rfl
                      · exact op_pick_tt (by rfl) (val_const (by rfl))
                      · (try dsimp only [putT, List.set_cons_zero, List.set_cons_succ]); try exact rfl
                      apply al_stepN
                      · exact op_pick_tt (by rfl) (val_tmp (by rfl))
                      · rfl
                      · (try dsimp only [putT, List.set_cons_zero, List.set_cons_succ]); try exact rfl
                      apply al_stepN
                      · exact op_move_tmp (by rfl)
                      · rfl
                      · (try dsimp only [putT, List.set_cons_zero, List.set_cons_succ]); try exact rfl
                      apply al_wantedN
                      · rfl
                      · rfl
                      · rfl
                      · exact op_move_tmp (by rfl)
                      · (try dsimp only [putT, List.set_cons_zero, List.set_cons_succ]); try exact rfl
                      apply al_wantedN
                      · rfl
                      · rfl
                      · rfl
                      · exact op_move_tmp (by rfl)
                      · (try dsimp only [putT, List.set_cons_zero, List.set_cons_succ]); try exact rfl
                      refine al_split 79 rfl (fun hg20 => ?_) (fun hg20 => ?_)
                      · skip
                        (try simp only [decide_eq_true_eq, decide_eq_false_iff_not, beq_iff_eq, beq_eq_false_iff_ne, Bool.not_eq_true', Bool.not_eq_false', bne_iff_ne, ne_eq, Decidable.not_not, bne_eq_false_iff_eq, List.length_map] at hg20)
                        apply al_normT
                        · (try dsimp only [putT, List.set_cons_zero, List.set_cons_succ]); try exact rfl
                        refine al_unwanted rfl rfl rfl rfl ?_
                        apply al_normT
                        · (try dsimp only [putT, List.set_cons_zero, List.set_cons_succ]); try exact rfl
                        refine al_unwanted rfl rfl rfl rfl ?_
                        apply al_normT
                        · (try dsimp only [putT, List.set_cons_zero, List.set_cons_succ]); try exact rfl
                        apply al_wantedN
                        · rfl
                        · rfl
                        · rfl
                        · exact op_pick_tt (by rfl) (val_const (by rfl))
                        · (try dsimp only [putT, List.set_cons_zero, List.set_cons_succ]); try exact rfl
                        apply al_stepN
                        · exact op_pick_tt (by rfl) (val_tmp (by rfl))
                        · rfl
                        · (try dsimp only [putT, List.set_cons_zero, List.set_cons_succ]); try exact rfl
                        apply al_stepN
                        · exact op_assign_tmp (by rfl)
                        · rfl
                        · (try dsimp only [putT, List.set_cons_zero, List.set_cons_succ]); try exact rfl
                        apply al_end
                        · (try dsimp only [putT, List.set_cons_zero, List.set_cons_succ]); try exact rfl
                        refine then_normal ?_
                        refine aw_ret ?_
                        refine retPost1 rfl rfl ?_
                        first | exact rfl | simp [numL_zero (by assumption), TF]
                      · skip
                        (try simp only [decide_eq_true_eq, decide_eq_false_iff_not, beq_iff_eq, beq_eq_false_iff_ne, Bool.not_eq_true', Bool.not_eq_false', bne_iff_ne, ne_eq, Decidable.not_not, bne_eq_false_iff_eq, List.length_map] at hg20)
                        apply al_normT
                        · (try dsimp only [putT, List.set_cons_zero, List.set_cons_succ]); try exact rfl
                        apply al_wantedN
                        · rfl
                        · rfl
                        · rfl
                        · exact op_move_tmp (by rfl)
                        · (try dsimp only [putT, List.set_cons_zero, List.set_cons_succ]); try exact rfl
                        apply al_wantedN
                        · rfl
                        · rfl
                        · rfl
                        · exact op_eqI (by rfl) (by rfl)
                        · (try dsimp only [putT, List.set_cons_zero, List.set_cons_succ]); try exact rfl
                        apply al_wantedN
                        · rfl
                        · rfl
                        · rfl
                        · exact op_pick_ff (by rfl) (val_tmp (by rfl))
                        · (try dsimp only [putT, List.set_cons_zero, List.set_cons_succ]); try exact rfl
                        apply al_stepN
                        · exact op_pick_tt (by rfl) (val_tmp (by rfl))
                        · rfl
                        · (try dsimp only [putT, List.set_cons_zero, List.set_cons_succ]); try exact rfl
                        apply al_stepN
                        · exact op_assign_tmp (by rfl)
                        · rfl
                        · (try dsimp only [putT, List.set_cons_zero, List.set_cons_succ]); try exact rfl
                        apply al_end
                        · (try dsimp only [putT, List.set_cons_zero, List.set_cons_succ]); try exact rfl
                        refine then_normal ?_
                        refine aw_ret ?_
                        refine retPost1 rfl rfl ?_
                        first | exact rfl | simp [numL_zero (by assumption), TF]
                    · skip
                      (try simp only [decide_eq_true_eq, decide_eq_false_iff_not, beq_iff_eq, beq_eq_false_iff_ne, Bool.not_eq_true', Bool.not_eq_false', bne_iff_ne, ne_eq, Decidable.not_not, bne_eq_false_iff_eq, List.length_map] at hg19)
                      apply al_normT
                      · (try dsimp only [putT, List.set_cons_zero, List.set_cons_succ]); try exact rfl
                      apply al_wantedN
                      · rfl
                      · rfl
                      · rfl
                      · exact op_move_tmp (by rfl)
                      · (try dsimp only [putT, List.set_cons_zero, List.set_cons_succ]); try exact rfl
                      apply al_wantedN
                      · rfl
                      · rfl
                      · rfl
                      · exact op_callF Try.func14 (by rfl) (by rfl) (.const (by rfl) (.tmp (by rfl) .nil)) (int_ok _ none _ [] (numL s).1 (App.nil _) (HS.ok_none _ _) (numL_i64 s) (by simp))
                      · (try dsimp only [putT, List.set_cons_zero, List.set_cons_succ]); try exact rfl
                      apply al_wantedN
                      · rfl
                      · rfl
                      · rfl
                      · exact op_string Try.underlying22 Try.underlying9 Try.underlying5 (LL.own _ _ _) (by rfl)
                      · (try dsimp only [putT, List.set_cons_zero, List.set_cons_succ]); try exact rfl
                      apply al_wantedN
                      · rfl
                      · rfl
                      · rfl
                      · exact op_move_tmp (by rfl)
                      · (try dsimp only [putT, List.set_cons_zero, List.set_cons_succ]); try exact rfl
                      apply al_wantedN
                      · rfl
                      · rfl
                      · rfl
                      · exact op_eqS (by rfl) (by rfl)
                      · (try dsimp only [putT, List.set_cons_zero, List.set_cons_succ]); try exact rfl
                      apply al_wantedN
                      · rfl
                      · rfl
                      · rfl
                      · exact op_pick_ff (by rfl) (val_tmp (by rfl))
                      · (try dsimp only [putT, List.set_cons_zero, List.set_cons_succ]); try exact rfl
                      apply al_stepN
                      · exact op_pick_tt (by rfl) (val_tmp (by rfl))
                      · rfl
                      · (try dsimp only [putT, List.set_cons_zero, List.set_cons_succ]); try exact rfl
                      apply al_stepN
                      · exact op_move_tmp (by rfl)
                      · rfl
                      · (try dsimp only [putT, List.set_cons_zero, List.set_cons_succ]); try exact rfl
                      refine al_split 77 rfl (fun hg21 => ?_) (fun hg21 => ?_)
                      · skip
                        (try simp only [decide_eq_true_eq, decide_eq_false_iff_not, beq_iff_eq, beq_eq_false_iff_ne, Bool.not_eq_true', Bool.not_eq_false', bne_iff_ne, ne_eq, Decidable.not_not, bne_eq_false_iff_eq, List.length_map] at hg21)
                        apply al_normT
                        · (try dsimp only [putT, List.set_cons_zero, List.set_cons_succ]); try exact rfl
                        apply al_wantedN
                        · rfl
                        · rfl
                        · rfl
                        · exact op_move_tmp (by rfl)
                        · (try dsimp only [putT, List.set_cons_zero, List.set_cons_succ]); try exact rfl
                        apply al_wantedN
                        · rfl
                        · rfl
                        · rfl
                        · exact op_move_tmp (by rfl)
                        · (try dsimp only [putT, List.set_cons_zero, List.set_cons_succ]); try exact rfl
                        refine al_split 79 rfl (fun hg22 => ?_) (fun hg22 => ?_)
                        · skip
                          (try simp only [decide_eq_true_eq, decide_eq_false_iff_not, beq_iff_eq, beq_eq_false_iff_ne, Bool.not_eq_true', Bool.not_eq_false', bne_iff_ne, ne_eq, Decidable.not_not, bne_eq_false_iff_eq, List.length_map] at hg22)
                          apply al_normT
                          · (try dsimp only [putT, List.set_cons_zero, List.set_cons_succ]); try exact rfl
                          refine al_unwanted rfl rfl rfl rfl ?_
                          apply al_normT
                          · (try dsimp only [putT, List.set_cons_zero, List.set_cons_succ]); try exact rfl
                          refine al_unwanted rfl rfl rfl rfl ?_
                          apply al_normT
                          · (try dsimp only [putT, List.set_cons_zero, List.set_cons_succ]); try exact rfl
                          apply al_wantedN
                          · rfl
                          · rfl
                          · rfl
                          · exact op_pick_tt (by rfl) (val_const (by rfl))
                          · (try dsimp only [putT, List.set_cons_zero, List.set_cons_succ]); try exact rfl
                          apply al_stepN
                          · exact op_pick_tt (by rfl) (val_tmp (by rfl))
                          · rfl
                          · (try dsimp only [putT, List.set_cons_zero, List.set_cons_succ]); try exact rfl
                          apply al_stepN
                          · exact op_assign_tmp (by rfl)
                          · rfl
                          · (try dsimp only [putT, List.set_cons_zero, List.set_cons_succ]); try exact rfl
                          apply al_end
                          · (try dsimp only [putT, List.set_cons_zero, List.set_cons_succ]); try exact rfl
                          refine then_normal ?_
                          refine aw_ret ?_
                          refine retPost1 rfl rfl ?_
                          first | exact rfl | simp [numL_zero (by assumption), TF]
                        · skip
                          (try simp only [decide_eq_true_eq, decide_eq_false_iff_not, beq_iff_eq, beq_eq_false_iff_ne, Bool.not_eq_true', Bool.not_eq_false', bne_iff_ne, ne_eq, Decidable.not_not, bne_eq_false_iff_eq, List.length_map] at hg22)
                          apply al_normT
                          · (try dsimp only [putT, List.set_cons_zero, List.set_cons_succ]); try exact rfl
                          apply al_wantedN
                          · rfl
                          · rfl
                          · rfl
                          · exact op_move_tmp (by rfl)
                          · (try dsimp only [putT, List.set_cons_zero, List.set_cons_succ]); try exact rfl
                          apply al_wantedN
                          · rfl
                          · rfl
                          · rfl
                          · exact op_eqI (by rfl) (by rfl)
                          · (try dsimp only [putT, List.set_cons_zero, List.set_cons_succ]); try exact rfl
                          apply al_wantedN
                          · rfl
                          · rfl
                          · rfl
                          · exact op_pick_ff (by rfl) (val_tmp (by rfl))
                          · (try dsimp only [putT, List.set_cons_zero, List.set_cons_succ]); try exact rfl
                          apply al_stepN
                          · exact op_pick_tt (by rfl) (val_tmp (by rfl))
                          · rfl
                          · (try dsimp only [putT, List.set_cons_zero, List.set_cons_succ]); try exact rfl
                          apply al_stepN
                          · exact op_assign_tmp (by rfl)
                          · rfl
                          · (try dsimp only [putT, List.set_cons_zero, List.set_cons_succ]); try exact rfl
                          apply al_end
                          · (try dsimp only [putT, List.set_cons_zero, List.set_cons_succ]); try exact rfl
                          refine then_normal ?_
                          refine aw_ret ?_
                          refine retPost1 rfl rfl ?_
                          first | exact rfl | simp [numL_zero (by assumption), TF]
                      · skip
                        (try simp only [decide_eq_true_eq, decide_eq_false_iff_not, beq_iff_eq, beq_eq_false_iff_ne, Bool.not_eq_true', Bool.not_eq_false', bne_iff_ne, ne_eq, Decidable.not_not, bne_eq_false_iff_eq, List.length_map] at hg21)
                        apply al_normT
                        · (try dsimp only [putT, List.set_cons_zero, List.set_cons_succ]); try exact rfl
                        exact absurd (numL_back (by assumption)) hg21
                  · skip
                    (try simp only [decide_eq_true_eq, decide_eq_false_iff_not, beq_iff_eq, beq_eq_false_iff_ne, Bool.not_eq_true', Bool.not_eq_false', bne_iff_ne, ne_eq, Decidable.not_not, bne_eq_false_iff_eq, List.length_map] at hg18)
                    apply al_normT
                    · (try dsimp only [putT, List.set_cons_zero, List.set_cons_succ]); try exact rfl
                    exact absurd (by rw [numL_ok, Bool.eq_iff_iff]; simp; omega) hg18
                · skip
                  (try simp only [decide_eq_true_eq, decide_eq_false_iff_not, beq_iff_eq, beq_eq_false_iff_ne, Bool.not_eq_true', Bool.not_eq_false', bne_iff_ne, ne_eq, Decidable.not_not, bne_eq_false_iff_eq, List.length_map] at hg17)
                  apply al_normT
                  · (try dsimp only [putT, List.set_cons_zero, List.set_cons_succ]); try exact rfl
                  exact absurd (by simp [numL_encI ha]) hg17
              · skip
                (try simp only [decide_eq_true_eq, decide_eq_false_iff_not, beq_iff_eq, beq_eq_false_iff_ne, Bool.not_eq_true', Bool.not_eq_false', bne_iff_ne, ne_eq, Decidable.not_not, bne_eq_false_iff_eq, List.length_map] at hg16)
                apply al_normT
                · (try dsimp only [putT, List.set_cons_zero, List.set_cons_succ]); try exact rfl
                simp [numL_encI ha] at hg16
            · skip
              (try simp only [decide_eq_true_eq, decide_eq_false_iff_not, beq_iff_eq, beq_eq_false_iff_ne, Bool.not_eq_true', Bool.not_eq_false', bne_iff_ne, ne_eq, Decidable.not_not, bne_eq_false_iff_eq, List.length_map] at hg15)
              apply al_normT
              · (try dsimp only [putT, List.set_cons_zero, List.set_cons_succ]); try exact rfl
              exact absurd (by rw [List.nil_append, List.nil_append, byL_encI ha hb]; (repeat' split) <;> omega) hg15
          · skip
            (try simp only [decide_eq_true_eq, decide_eq_false_iff_not, beq_iff_eq, beq_eq_false_iff_ne, Bool.not_eq_true', Bool.not_eq_false', bne_iff_ne, ne_eq, Decidable.not_not, bne_eq_false_iff_eq, List.length_map] at hg14)
            apply al_normT
            · (try dsimp only [putT, List.set_cons_zero, List.set_cons_succ]); try exact rfl
            exact absurd (by simp [encI_len]) hg14
      · skip
        (try simp only [decide_eq_true_eq, decide_eq_false_iff_not, beq_iff_eq, beq_eq_false_iff_ne, Bool.not_eq_true', Bool.not_eq_false', bne_iff_ne, ne_eq, Decidable.not_not, bne_eq_false_iff_eq, List.length_map] at hc3)
        have hge : ¬ a < b := hc3
        refine aw_skip ?_
        refine then_normal ?_
        refine aw_seq ?_
        refine aw_seq ?_
        refine aw_region ?_
        apply al_stepN
        · exact op_move_tmp (by rfl)
        · rfl
        · (try dsimp only [putT, List.set_cons_zero, List.set_cons_succ]); try exact rfl
        apply al_stepN
        · exact op_move_tmp (by rfl)
        · rfl
        · (try dsimp only [putT, List.set_cons_zero, List.set_cons_succ]); try exact rfl
        apply al_stepN
        · exact op_gtI (by rfl) (by rfl)
        · rfl
        · (try dsimp only [putT, List.set_cons_zero, List.set_cons_succ]); try exact rfl
        apply al_end
        · (try dsimp only [putT, List.set_cons_zero, List.set_cons_succ]); try exact rfl
        refine then_normal ?_
        refine aw_cond rfl (fun hc23 => ?_) (fun hc23 => ?_)
        · skip
          (try simp only [decide_eq_true_eq, decide_eq_false_iff_not, beq_iff_eq, beq_eq_false_iff_ne, Bool.not_eq_true', Bool.not_eq_false', bne_iff_ne, ne_eq, Decidable.not_not, bne_eq_false_iff_eq, List.length_map] at hc23)
          have hgt : b < a := hc23
          refine aw_region ?_
          apply al_stepN
          · exact op_assign_const (by rfl)
          · rfl
          · (try dsimp only [putT, List.set_cons_zero, List.set_cons_succ]); try exact rfl
          apply al_end
          · (try dsimp only [putT, List.set_cons_zero, List.set_cons_succ]); try exact rfl
          refine then_normal ?_
          refine aw_seq ?_
          refine aw_region ?_
          apply al_stepN
          · exact op_move_tmp (by rfl)
          · rfl
          · (try dsimp only [putT, List.set_cons_zero, List.set_cons_succ]); try exact rfl
          apply al_stepN
          · exact op_callF Try.func18 (by rfl) (by rfl) (.tmp (by rfl) .nil) (number_ok _ _)
          · rfl
          · (try dsimp only [putT, List.set_cons_zero, List.set_cons_succ]); try exact rfl
          apply al_stepN
          · exact op_move_tmp (by rfl)
          · rfl
          · (try dsimp only [putT, List.set_cons_zero, List.set_cons_succ]); try exact rfl
          apply al_stepN
          · exact op_extract (by rfl) (by rfl)
          · rfl
          · (try dsimp only [putT, List.set_cons_zero, List.set_cons_succ]); try exact rfl
          apply al_stepN
          · exact op_extract (by rfl) (by rfl)
          · rfl
          · (try dsimp only [putT, List.set_cons_zero, List.set_cons_succ]); try exact rfl
          apply al_stepN
          · exact op_assign_tmp (by rfl)
          · rfl
          · (try dsimp only [putT, List.set_cons_zero, List.set_cons_succ]); try exact rfl
          apply al_stepN
          · exact op_assign_tmp (by rfl)
          · rfl
          · (try dsimp only [putT, List.set_cons_zero, List.set_cons_succ]); try exact rfl
          apply al_end
          · (try dsimp only [putT, List.set_cons_zero, List.set_cons_succ]); try exact rfl
          refine then_normal ?_
          refine aw_seq ?_
          refine aw_region ?_
          apply al_stepN
          · exact op_move_tmp (by rfl)
          · rfl
          · (try dsimp only [putT, List.set_cons_zero, List.set_cons_succ]); try exact rfl
          apply al_stepN
          · exact op_callF Try.func18 (by rfl) (by rfl) (.tmp (by rfl) .nil) (number_ok _ _)
          · rfl
          · (try dsimp only [putT, List.set_cons_zero, List.set_cons_succ]); try exact rfl
          apply al_stepN
          · exact op_move_tmp (by rfl)
          · rfl
          · (try dsimp only [putT, List.set_cons_zero, List.set_cons_succ]); try exact rfl
          apply al_stepN
          · exact op_extract (by rfl) (by rfl)
          · rfl
          · (try dsimp only [putT, List.set_cons_zero, List.set_cons_succ]); try exact rfl
          apply al_stepN
          · exact op_extract (by rfl) (by rfl)
          · rfl
          · (try dsimp only [putT, List.set_cons_zero, List.set_cons_succ]); try exact rfl
          apply al_stepN
          · exact op_assign_tmp (by rfl)
          · rfl
          · (try dsimp only [putT, List.set_cons_zero, List.set_cons_succ]); try exact rfl
          apply al_stepN
          · exact op_assign_tmp (by rfl)
          · rfl
          · (try dsimp only [putT, List.set_cons_zero, List.set_cons_succ]); try exact rfl
          apply al_end
          · (try dsimp only [putT, List.set_cons_zero, List.set_cons_succ]); try exact rfl
          refine then_normal ?_
          refine aw_seq ?_
          refine aw_region ?_
          apply al_stepN
          · exact op_move_tmp (by rfl)
          · rfl
          · (try dsimp only [putT, List.set_cons_zero, List.set_cons_succ]); try exact rfl
          apply al_stepN
          · exact op_lenS Try.underlying9 (by rfl)
          · rfl
          · (try dsimp only [putT, List.set_cons_zero, List.set_cons_succ]); try exact rfl
          apply al_stepN
          · exact op_eqI (by rfl) (by rfl)
          · rfl
          · (try dsimp only [putT, List.set_cons_zero, List.set_cons_succ]); try exact rfl
          apply al_stepN
          · exact op_move_tmp (by rfl)
          · rfl
          · (try dsimp only [putT, List.set_cons_zero, List.set_cons_succ]); try exact rfl
          refine al_split 44 rfl (fun hg24 => ?_) (fun hg24 => ?_)
          · skip
            (try simp only [decide_eq_true_eq, decide_eq_false_iff_not, beq_iff_eq, beq_eq_false_iff_ne, Bool.not_eq_true', Bool.not_eq_false', bne_iff_ne, ne_eq, Decidable.not_not, bne_eq_false_iff_eq, List.length_map] at hg24)
            apply al_normT
            · (try dsimp only [putT, List.set_cons_zero, List.set_cons_succ]); try exact rfl
            apply al_wantedN
            · rfl
            · rfl
            · rfl
            · exact op_move_tmp (by rfl)
            · (try dsimp only [putT, List.set_cons_zero, List.set_cons_succ]); try exact rfl
            apply al_wantedN
            · rfl
            · rfl
            · rfl
            · exact op_move_tmp (by rfl)
            · (try dsimp only [putT, List.set_cons_zero, List.set_cons_succ]); try exact rfl
            apply al_wantedN
            · rfl
            · rfl
            · rfl
            · exact op_callF Try.func13 (by rfl) (by rfl) (.tmp (by rfl) (.tmp (by rfl) .nil)) (by_ok _ _ _)
            · (try dsimp only [putT, List.set_cons_zero, List.set_cons_succ]); try exact rfl
            apply al_wantedN
            · rfl
            · rfl
            · rfl
            · exact op_move_tmp (by rfl)
            · (try dsimp only [putT, List.set_cons_zero, List.set_cons_succ]); try exact rfl
            apply al_wantedN
            · rfl
            · rfl
            · rfl
            · exact op_eqI (by rfl) (by rfl)
            · (try dsimp only [putT, List.set_cons_zero, List.set_cons_succ]); try exact rfl
            apply al_stepN
            · exact op_pick_tt (by rfl) (val_tmp (by rfl))
            · rfl
            · (try dsimp only [putT, List.set_cons_zero, List.set_cons_succ]); try exact rfl
            apply al_stepN
            · exact op_move_tmp (by rfl)
            · rfl
            · (try dsimp only [putT, List.set_cons_zero, List.set_cons_succ]); try exact rfl
            refine al_split 51 rfl (fun hg25 => ?_) (fun hg25 => ?_)
            · skip
              (try simp only [decide_eq_true_eq, decide_eq_false_iff_not, beq_iff_eq, beq_eq_false_iff_ne, Bool.not_eq_true', Bool.not_eq_false', bne_iff_ne, ne_eq, Decidable.not_not, bne_eq_false_iff_eq, List.length_map] at hg25)
              apply al_normT
              · (try dsimp only [putT, List.set_cons_zero, List.set_cons_succ]); try exact rfl
              apply al_wantedN
              · rfl
              · rfl
              · rfl
              · exact op_move_tmp (by rfl)
              · (try dsimp only [putT, List.set_cons_zero, List.set_cons_succ]); try exact rfl
              apply al_stepN
              · exact op_pick_tt (by rfl) (val_tmp (by rfl))
              · rfl
              · (try dsimp only [putT, List.set_cons_zero, List.set_cons_succ]); try exact rfl
              apply al_stepN
              · exact op_move_tmp (by rfl)
              · rfl
              · (try dsimp only [putT, List.set_cons_zero, List.set_cons_succ]); try exact rfl
              refine al_split 54 rfl (fun hg26 => ?_) (fun hg26 => ?_)
              · skip
                (try simp only [decide_eq_true_eq, decide_eq_false_iff_not, beq_iff_eq, beq_eq_false_iff_ne, Bool.not_eq_true', Bool.not_eq_false', bne_iff_ne, ne_eq, Decidable.not_not, bne_eq_false_iff_eq, List.length_map] at hg26)
                apply al_normT
                · (try dsimp only [putT, List.set_cons_zero, List.set_cons_succ]); try exact rfl
                apply al_wantedN
                · rfl
                · rfl
                · rfl
                · exact op_move_tmp (by rfl)
                · (try dsimp only [putT, List.set_cons_zero, List.set_cons_succ]); try exact rfl
                apply al_wantedN
                · rfl
                · rfl
                · rfl
                · exact op_move_tmp (by rfl)
                · (try dsimp only [putT, List.set_cons_zero, List.set_cons_succ]); try exact rfl
                apply al_wantedN
                · rfl
                · rfl
                · rfl
                · exact op_eqI (by rfl) (by rfl)
                · (try dsimp only [putT, List.set_cons_zero, List.set_cons_succ]); try exact rfl
                apply al_stepN
                · exact op_pick_tt (by rfl) (val_tmp (by rfl))
                · rfl
                · (try dsimp only [putT, List.set_cons_zero, List.set_cons_succ]); try exact rfl
                apply al_stepN
                · exact op_move_tmp (by rfl)
                · rfl
                · (try dsimp only [putT, List.set_cons_zero, List.set_cons_succ]); try exact rfl
                refine al_split 59 rfl (fun hg27 => ?_) (fun hg27 => ?_)
                · skip
                  (try simp only [decide_eq_true_eq, decide_eq_false_iff_not, beq_iff_eq, beq_eq_false_iff_ne, Bool.not_eq_true', Bool.not_eq_false', bne_iff_ne, ne_eq, Decidable.not_not, bne_eq_false_iff_eq, List.length_map] at hg27)
                  apply al_normT
                  · (try dsimp only [putT, List.set_cons_zero, List.set_cons_succ]); try exact rfl
                  apply al_wantedN
                  · rfl
                  · rfl
                  · rfl
                  · exact op_move_tmp (by rfl)
                  · (try dsimp only [putT, List.set_cons_zero, List.set_cons_succ]); try exact rfl
                  apply al_wantedN
                  · rfl
                  · rfl
                  · rfl
                  · exact op_move_tmp (by rfl)
                  · (try dsimp only [putT, List.set_cons_zero, List.set_cons_succ]); try exact rfl
                  apply al_wantedN
                  · rfl
                  · rfl
                  · rfl
                  · exact op_lenS Try.underlying9 (by rfl)
                  · (try dsimp only [putT, List.set_cons_zero, List.set_cons_succ]); try exact rfl
                  apply al_wantedN
                  · rfl
                  · rfl
                  · rfl
                  · exact op_eqI (by rfl) (by rfl)
                  · (try dsimp only [putT, List.set_cons_zero, List.set_cons_succ]); try exact rfl
                  apply al_wantedN
                  · rfl
                  · rfl
                  · rfl
                  · exact op_eqB Try.underlying4 (by rfl) (by rfl)
                  · (try dsimp only [putT, List.set_cons_zero, List.set_cons_succ]); try exact rfl
                  apply al_stepN
                  · exact op_pick_tt (by rfl) (val_tmp (by rfl))
                  · rfl
                  · (try dsimp only [putT, List.set_cons_zero, List.set_cons_succ]); try exact rfl
                  apply al_stepN
                  · exact op_move_tmp (by rfl)
                  · rfl
                  · (try dsimp only [putT, List.set_cons_zero, List.set_cons_succ]); try exact rfl
                  refine al_split 66 rfl (fun hg28 => ?_) (fun hg28 => ?_)
                  · skip
                    (try simp only [decide_eq_true_eq, decide_eq_false_iff_not, beq_iff_eq, beq_eq_false_iff_ne, Bool.not_eq_true', Bool.not_eq_false', bne_iff_ne, ne_eq, Decidable.not_not, bne_eq_false_iff_eq, List.length_map] at hg28)
                    apply al_normT
                    · (try dsimp only [putT, List.set_cons_zero, List.set_cons_succ]); try exact rfl
                    apply al_wantedN
                    · rfl
                    · rfl
                    · rfl
                    · exact op_move_tmp (by rfl)
                    · (try dsimp only [putT, List.set_cons_zero, List.set_cons_succ]); try exact rfl
                    apply al_wantedN
                    · rfl
                    · rfl
                    · rfl
                    · exact op_not (by rfl)
                    · (try dsimp only [putT, List.set_cons_zero, List.set_cons_succ]); try exact rfl
                    apply al_wantedN
                    · rfl
                    · rfl
                    · rfl
                    · exact op_move_tmp (by rfl)
                    · (try dsimp only [putT, List.set_cons_zero, List.set_cons_succ]); try exact rfl
                    refine al_split 69 rfl (fun hg29 => ?_) (fun hg29 => ?_)
                    · skip
                      (try simp only [decide_eq_true_eq, decide_eq_false_iff_not, beq_iff_eq, beq_eq_false_iff_ne, Bool.not_eq_true', Bool.not_eq_false', bne_iff_ne, ne_eq, Decidable.not_not, bne_eq_false_iff_eq, List.length_map] at hg29)
                      apply al_normT
                      · (try dsimp only [putT, List.set_cons_zero, List.set_cons_succ]); try exact rfl
                      refine al_unwanted rfl rfl rfl rfl ?_
                      apply al_normT
                      · (try dsimp only [putT, List.set_cons_zero, List.set_cons_succ]); try exact rfl
                      refine al_unwanted rfl rfl rfl rfl ?_
                      apply al_normT
                      · (try dsimp only [putT, List.set_cons_zero, List.set_cons_succ]); try exact rfl
                      refine al_unwanted rfl rfl rfl rfl ?_
                      apply al_normT
                      · (try dsimp only [putT, List.set_cons_zero, List.set_cons_succ]); try exact rfl
                      refine al_unwanted rfl rfl rfl rfl ?_
                      apply al_normT
                      · (try dsimp only [putT, List.set_cons_zero, List.set_cons_succ]); try exact rfl
                      refine al_unwanted rfl rfl rfl rfl ?_
                      apply al_normT
                      · (try dsimp only [putT, List.set_cons_zero, List.set_cons_succ]); try exact rfl
                      apply al_wantedN
                      · rfl
                      · rfl
                      · rfl
                      · exact op_pick_tt (by rfl) (val_const (by rfl))
                      · (try dsimp only [putT, List.set_cons_zero, List.set_cons_succ]); try exact rfl
                      apply al_stepN
                      · exact op_pick_tt (by rfl) (val_tmp (by rfl))
                      · rfl
                      · (try dsimp only [putT, List.set_cons_zero, List.set_cons_succ]); try exact rfl
                      apply al_stepN
                      · exact op_move_tmp (by rfl)
                      · rfl
                      · (try dsimp only [putT, List.set_cons_zero, List.set_cons_succ]); try exact rfl
                      apply al_wantedN
                      · rfl
                      · rfl
                      · rfl
                      · exact op_move_tmp (by rfl)
                      · (try dsimp only [putT, List.set_cons_zero, List.set_cons_succ]); try exact rfl
                      apply al_wantedN
                      · rfl
                      · rfl
                      · rfl
                      · exact op_move_tmp (by rfl)
                      · (try dsimp only [putT, List.set_cons_zero, List.set_cons_succ]); try exact rfl
                      refine al_split 79 rfl (fun hg30 => ?_) (fun hg30 => ?_)
                      · skip
                        (try simp only [decide_eq_true_eq, decide_eq_false_iff_not, beq_iff_eq, beq_eq_false_iff_ne, Bool.not_eq_true', Bool.not_eq_false', bne_iff_ne, ne_eq, Decidable.not_not, bne_eq_false_iff_eq, List.length_map] at hg30)
                        apply al_normT
                        · (try dsimp only [putT, List.set_cons_zero, List.set_cons_succ]); try exact rfl
                        refine al_unwanted rfl rfl rfl rfl ?_
                        apply al_normT
                        · (try dsimp only [putT, List.set_cons_zero, List.set_cons_succ]); try exact rfl
                        refine al_unwanted rfl rfl rfl rfl ?_
                        apply al_normT
                        · (try dsimp only [putT, List.set_cons_zero, List.set_cons_succ]); try exact rfl
                        apply al_wantedN
                        · rfl
                        · rfl
                        · rfl
                        · exact op_pick_tt (by rfl) (val_const (by rfl))
                        · (try dsimp only [putT, List.set_cons_zero, List.set_cons_succ]); try exact rfl
                        apply al_stepN
                        · exact op_pick_tt (by rfl) (val_tmp (by rfl))
                        · rfl
                        · (try dsimp only [putT, List.set_cons_zero, List.set_cons_succ]); try exact rfl
                        apply al_stepN
                        · exact op_assign_tmp (by rfl)
                        · rfl
                        · (try dsimp only [putT, List.set_cons_zero, List.set_cons_succ]); try exact rfl
                        apply al_end
                        · (try dsimp only [putT, List.set_cons_zero, List.set_cons_succ]); try exact rfl
                        refine then_normal ?_
                        refine aw_ret ?_
                        refine retPost1 rfl rfl ?_
                        first | exact rfl | simp [numL_zero (by assumption), TF]
                      · skip
                        (try simp only [decide_eq_true_eq, decide_eq_false_iff_not, beq_iff_eq, beq_eq_false_iff_ne, Bool.not_eq_true', Bool.not_eq_false', bne_iff_ne, ne_eq, Decidable.not_not, bne_eq_false_iff_eq, List.length_map] at hg30)
                        apply al_normT
                        · (try dsimp only [putT, List.set_cons_zero, List.set_cons_succ]); try exact rfl
                        apply al_wantedN
                        · rfl
                        · rfl
                        · rfl
                        · exact op_move_tmp (by rfl)
                        · (try dsimp only [putT, List.set_cons_zero, List.set_cons_succ]); try exact rfl
                        apply al_wantedN
                        · rfl
                        · rfl
                        · rfl
                        · exact op_eqI (by rfl) (by rfl)
                        · (try dsimp only [putT, List.set_cons_zero, List.set_cons_succ]); try exact rfl
                        apply al_wantedN
                        · rfl
                        · rfl
                        · rfl
                        · exact op_pick_ff (by rfl) (val_tmp (by rfl))
                        · (try dsimp only [putT, List.set_cons_zero, List.set_cons_succ]); try exact rfl
                        apply al_stepN
                        · exact op_pick_tt (by rfl) (val_tmp (by rfl))
                        · rfl
                        · (try dsimp only [putT, List.set_cons_zero, List.set_cons_succ]); try exact rfl
                        apply al_stepN
                        · exact op_assign_tmp (by rfl)
                        · rfl
                        · (try dsimp only [putT, List.set_cons_zero, List.set_cons_succ]); try exact rfl
                        apply al_end
                        · (try dsimp only [putT, List.set_cons_zero, List.set_cons_succ]); try exact rfl
                        refine then_normal ?_
                        refine aw_ret ?_
                        refine retPost1 rfl rfl ?_
                        first | exact rfl | simp [numL_zero (by assumption), TF]
                    · skip
                      (try simp only [decide_eq_true_eq, decide_eq_false_iff_not, beq_iff_eq, beq_eq_false_iff_ne, Bool.not_eq_true', Bool.not_eq_false', bne_iff_ne, ne_eq, Decidable.not_not, bne_eq_false_iff_eq, List.length_map] at hg29)
                      apply al_normT
                      · (try dsimp only [putT, List.set_cons_zero, List.set_cons_succ]); try exact rfl
                      apply al_wantedN
                      · rfl
                      · rfl
                      · rfl
                      · exact op_move_tmp (by rfl)
                      · (try dsimp only [putT, List.set_cons_zero, List.set_cons_succ]); try exact rfl
                      apply al_wantedN
                      · rfl
                      · rfl
                      · rfl
                      · exact op_callF Try.func14 (by rfl) (by rfl) (.const (by rfl) (.tmp (by rfl) .nil)) (int_ok _ none _ [] (numL s).1 (App.nil _) (HS.ok_none _ _) (numL_i64 s) (by simp))
                      · (try dsimp only [putT, List.set_cons_zero, List.set_cons_succ]); try exact rfl
                      apply al_wantedN
                      · rfl
                      · rfl
                      · rfl
                      · exact op_string Try.underlying22 Try.underlying9 Try.underlying5 (LL.own _ _ _) (by rfl)
                      · (try dsimp only [putT, List.set_cons_zero, List.set_cons_succ]); try exact rfl
                      apply al_wantedN
                      · rfl
                      · rfl
                      · rfl
                      · exact op_move_tmp (by rfl)
                      · (try dsimp only [putT, List.set_cons_zero, List.set_cons_succ]); try exact rfl
                      apply al_wantedN
                      · rfl
                      · rfl
                      · rfl
                      · exact op_eqS (by rfl) (by rfl)
                      · (try dsimp only [putT, List.set_cons_zero, List.set_cons_succ]); try exact rfl
                      apply al_wantedN
                      · rfl
                      · rfl
                      · rfl
                      · exact op_pick_ff (by rfl) (val_tmp (by rfl))
                      · (try dsimp only [putT, List.set_cons_zero, List.set_cons_succ]); try exact rfl
                      apply al_stepN
                      · exact op_pick_tt (by rfl) (val_tmp (by rfl))
                      · rfl
                      · (try dsimp only [putT, List.set_cons_zero, List.set_cons_succ]); try exact rfl
                      apply al_stepN
                      · exact op_move_tmp (by rfl)
                      · rfl
                      · (try dsimp only [putT, List.set_cons_zero, List.set_cons_succ]); try exact rfl
                      refine al_split 77 rfl (fun hg31 => ?_) (fun hg31 => ?_)
                      · skip
                        (try simp only [decide_eq_true_eq, decide_eq_false_iff_not, beq_iff_eq, beq_eq_false_iff_ne, Bool.not_eq_true', Bool.not_eq_false', bne_iff_ne, ne_eq, Decidable.not_not, bne_eq_false_iff_eq, List.length_map] at hg31)
                        apply al_normT
                        · (try dsimp only [putT, List.set_cons_zero, List.set_cons_succ]); try exact rfl
                        apply al_wantedN
                        · rfl
                        · rfl
                        · rfl
                        · exact op_move_tmp (by rfl)
                        · (try dsimp only [putT, List.set_cons_zero, List.set_cons_succ]); try exact rfl
                        apply al_wantedN
                        · rfl
                        · rfl
                        · rfl
                        · exact op_move_tmp (by rfl)
                        · (try dsimp only [putT, List.set_cons_zero, List.set_cons_succ]); try exact rfl
                        refine al_split 79 rfl (fun hg32 => ?_) (fun hg32 => ?_)
                        · skip
                          (try simp only [decide_eq_true_eq, decide_eq_false_iff_not, beq_iff_eq, beq_eq_false_iff_ne, Bool.not_eq_true', Bool.not_eq_false', bne_iff_ne, ne_eq, Decidable.not_not, bne_eq_false_iff_eq, List.length_map] at hg32)
                          apply al_normT
                          · (try dsimp only [putT, List.set_cons_zero, List.set_cons_succ]); try exact rfl
                          refine al_unwanted rfl rfl rfl rfl ?_
                          apply al_normT
                          · (try dsimp only [putT, List.set_cons_zero, List.set_cons_succ]); try exact rfl
                          refine al_unwanted rfl rfl rfl rfl ?_
                          apply al_normT
                          · (try dsimp only [putT, List.set_cons_zero, List.set_cons_succ]); try exact rfl
                          apply al_wantedN
                          · rfl
                          · rfl
                          · rfl
                          · exact op_pick_tt (by rfl) (val_const (by rfl))
                          · (try dsimp only [putT, List.set_cons_zero, List.set_cons_succ]); try exact rfl
                          apply al_stepN
                          · exact op_pick_tt (by rfl) (val_tmp (by rfl))
                          · rfl
                          · (try dsimp only [putT, List.set_cons_zero, List.set_cons_succ]); try exact rfl
                          apply al_stepN
                          · exact op_assign_tmp (by rfl)
                          · rfl
                          · (try dsimp only [putT, List.set_cons_zero, List.set_cons_succ]); try exact rfl
                          apply al_end
                          · (try dsimp only [putT, List.set_cons_zero, List.set_cons_succ]); try exact rfl
                          refine then_normal ?_
                          refine aw_ret ?_
                          refine retPost1 rfl rfl ?_
                          first | exact rfl | simp [numL_zero (by assumption), TF]
                        · skip
                          (try simp only [decide_eq_true_eq, decide_eq_false_iff_not, beq_iff_eq, beq_eq_false_iff_ne, Bool.not_eq_true', Bool.not_eq_false', bne_iff_ne, ne_eq, Decidable.not_not, bne_eq_false_iff_eq, List.length_map] at hg32)
                          apply al_normT
                          · (try dsimp only [putT, List.set_cons_zero, List.set_cons_succ]); try exact rfl
                          apply al_wantedN
                          · rfl
                          · rfl
                          · rfl
                          · exact op_move_tmp (by rfl)
                          · (try dsimp only [putT, List.set_cons_zero, List.set_cons_succ]); try exact rfl
                          apply al_wantedN
                          · rfl
                          · rfl
                          · rfl
                          · exact op_eqI (by rfl) (by rfl)
                          · (try dsimp only [putT, List.set_cons_zero, List.set_cons_succ]); try exact rfl
                          apply al_wantedN
                          · rfl
                          · rfl
                          · rfl
                          · exact op_pick_ff (by rfl) (val_tmp (by rfl))
                          · (try dsimp only [putT, List.set_cons_zero, List.set_cons_succ]); try exact rfl
                          apply al_stepN
                          · exact op_pick_tt (by rfl) (val_tmp (by rfl))
                          · rfl
                          · (try dsimp only [putT, List.set_cons_zero, List.set_cons_succ]); try exact rfl
                          apply al_stepN
                          · exact op_assign_tmp (by rfl)
                          · rfl
                          · (try dsimp only [putT, List.set_cons_zero, List.set_cons_succ]); try exact rfl
                          apply al_end
                          · (try dsimp only [putT, List.set_cons_zero, List.set_cons_succ]); try exact rfl
                          refine then_normal ?_
                          refine aw_ret ?_
                          refine retPost1 rfl rfl ?_
                          first | exact rfl | simp [numL_zero (by assumption), TF]
                      · skip
                        (try simp only [decide_eq_true_eq, decide_eq_false_iff_not, beq_iff_eq, beq_eq_false_iff_ne, Bool.not_eq_true', Bool.not_eq_false', bne_iff_ne, ne_eq, Decidable.not_not, bne_eq_false_iff_eq, List.length_map] at hg31)
                        apply al_normT
                        · (try dsimp only [putT, List.set_cons_zero, List.set_cons_succ]); try exact rfl
                        exact absurd (numL_back (by assumption)) hg31
                  · skip
                    (try simp only [decide_eq_true_eq, decide_eq_false_iff_not, beq_iff_eq, beq_eq_false_iff_ne, Bool.not_eq_true', Bool.not_eq_false', bne_iff_ne, ne_eq, Decidable.not_not, bne_eq_false_iff_eq, List.length_map] at hg28)
                    apply al_normT
                    · (try dsimp only [putT, List.set_cons_zero, List.set_cons_succ]); try exact rfl
                    exact absurd (by rw [numL_ok, Bool.eq_iff_iff]; simp; omega) hg28
                · skip
                  (try simp only [decide_eq_true_eq, decide_eq_false_iff_not, beq_iff_eq, beq_eq_false_iff_ne, Bool.not_eq_true', Bool.not_eq_false', bne_iff_ne, ne_eq, Decidable.not_not, bne_eq_false_iff_eq, List.length_map] at hg27)
                  apply al_normT
                  · (try dsimp only [putT, List.set_cons_zero, List.set_cons_succ]); try exact rfl
                  exact absurd (by simp [numL_encI ha]) hg27
              · skip
                (try simp only [decide_eq_true_eq, decide_eq_false_iff_not, beq_iff_eq, beq_eq_false_iff_ne, Bool.not_eq_true', Bool.not_eq_false', bne_iff_ne, ne_eq, Decidable.not_not, bne_eq_false_iff_eq, List.length_map] at hg26)
                apply al_normT
                · (try dsimp only [putT, List.set_cons_zero, List.set_cons_succ]); try exact rfl
                simp [numL_encI ha] at hg26
            · skip
              (try simp only [decide_eq_true_eq, decide_eq_false_iff_not, beq_iff_eq, beq_eq_false_iff_ne, Bool.not_eq_true', Bool.not_eq_false', bne_iff_ne, ne_eq, Decidable.not_not, bne_eq_false_iff_eq, List.length_map] at hg25)
              apply al_normT
              · (try dsimp only [putT, List.set_cons_zero, List.set_cons_succ]); try exact rfl
              exact absurd (by rw [List.nil_append, List.nil_append, byL_encI ha hb]; (repeat' split) <;> omega) hg25
          · skip
            (try simp only [decide_eq_true_eq, decide_eq_false_iff_not, beq_iff_eq, beq_eq_false_iff_ne, Bool.not_eq_true', Bool.not_eq_false', bne_iff_ne, ne_eq, Decidable.not_not, bne_eq_false_iff_eq, List.length_map] at hg24)
            apply al_normT
            · (try dsimp only [putT, List.set_cons_zero, List.set_cons_succ]); try exact rfl
            exact absurd (by simp [encI_len]) hg24
        · skip
          (try simp only [decide_eq_true_eq, decide_eq_false_iff_not, beq_iff_eq, beq_eq_false_iff_ne, Bool.not_eq_true', Bool.not_eq_false', bne_iff_ne, ne_eq, Decidable.not_not, bne_eq_false_iff_eq, List.length_map] at hc23)
          have hle : ¬ b < a := hc23
          refine aw_skip ?_
          refine then_normal ?_
          refine aw_seq ?_
          refine aw_region ?_
          apply al_stepN
          · exact op_move_tmp (by rfl)
          · rfl
          · (try dsimp only [putT, List.set_cons_zero, List.set_cons_succ]); try exact rfl
          apply al_stepN
          · exact op_callF Try.func18 (by rfl) (by rfl) (.tmp (by rfl) .nil) (number_ok _ _)
          · rfl
          · (try dsimp only [putT, List.set_cons_zero, List.set_cons_succ]); try exact rfl
          apply al_stepN
          · exact op_move_tmp (by rfl)
          · rfl
          · (try dsimp only [putT, List.set_cons_zero, List.set_cons_succ]); try exact rfl
          apply al_stepN
          · exact op_extract (by rfl) (by rfl)
          · rfl
          · (try dsimp only [putT, List.set_cons_zero, List.set_cons_succ]); try exact rfl
          apply al_stepN
          · exact op_extract (by rfl) (by rfl)
          · rfl
          · (try dsimp only [putT, List.set_cons_zero, List.set_cons_succ]); try exact rfl
          apply al_stepN
          · exact op_assign_tmp (by rfl)
          · rfl
          · (try dsimp only [putT, List.set_cons_zero, List.set_cons_succ]); try exact rfl
          apply al_stepN
          · exact op_assign_tmp (by rfl)
          · rfl
          · (try dsimp only [putT, List.set_cons_zero, List.set_cons_succ]); try exact rfl
          apply al_end
          · (try dsimp only [putT, List.set_cons_zero, List.set_cons_succ]); try exact rfl
          refine then_normal ?_
          refine aw_seq ?_
          refine aw_region ?_
          apply al_stepN
          · exact op_move_tmp (by rfl)
          · rfl
          · (try dsimp only [putT, List.set_cons_zero, List.set_cons_succ]); try exact rfl
          apply al_stepN
          · exact op_callF Try.func18 (by rfl) (by rfl) (.tmp (by rfl) .nil) (number_ok _ _)
          · rfl
          · (try dsimp only [putT, List.set_cons_zero, List.set_cons_succ]); try exact rfl
          apply al_stepN
          · exact op_move_tmp (by rfl)
          · rfl
          · (try dsimp only [putT, List.set_cons_zero, List.set_cons_succ]); try exact rfl
          apply al_stepN
          · exact op_extract (by rfl) (by rfl)
          · rfl
          · (try dsimp only [putT, List.set_cons_zero, List.set_cons_succ]); try exact rfl
          apply al_stepN
          · exact op_extract (by rfl) (by rfl)
          · rfl
          · (try dsimp only [putT, List.set_cons_zero, List.set_cons_succ]); try exact rfl
          apply al_stepN
          · exact op_assign_tmp (by rfl)
          · rfl
          · (try dsimp only [putT, List.set_cons_zero, List.set_cons_succ]); try exact rfl
          apply al_stepN
          · exact op_assign_tmp (by rfl)
          · rfl
          · (try dsimp only [putT, List.set_cons_zero, List.set_cons_succ]); try exact rfl
          apply al_end
          · (try dsimp only [putT, List.set_cons_zero, List.set_cons_succ]); try exact rfl
          refine then_normal ?_
          refine aw_seq ?_
          refine aw_region ?_
          apply al_stepN
          · exact op_move_tmp (by rfl)
          · rfl
          · (try dsimp only [putT, List.set_cons_zero, List.set_cons_succ]); try exact rfl
          apply al_stepN
          · exact op_lenS Try.underlying9 (by rfl)
          · rfl
          · (try dsimp only [putT, List.set_cons_zero, List.set_cons_succ]); try exact rfl
          apply al_stepN
          · exact op_eqI (by rfl) (by rfl)
          · rfl
          · (try dsimp only [putT, List.set_cons_zero, List.set_cons_succ]); try exact rfl
          apply al_stepN
          · exact op_move_tmp (by rfl)
          · rfl
          · (try dsimp only [putT, List.set_cons_zero, List.set_cons_succ]); try exact rfl
          refine al_split 44 rfl (fun hg33 => ?_) (fun hg33 => ?_)
          · skip
            (try simp only [decide_eq_true_eq, decide_eq_false_iff_not, beq_iff_eq, beq_eq_false_iff_ne, Bool.not_eq_true', Bool.not_eq_false', bne_iff_ne, ne_eq, Decidable.not_not, bne_eq_false_iff_eq, List.length_map] at hg33)
            apply al_normT
            · (try dsimp only [putT, List.set_cons_zero, List.set_cons_succ]); try exact rfl
            apply al_wantedN
            · rfl
            · rfl
            · rfl
            · exact op_move_tmp (by rfl)
            · (try dsimp only [putT, List.set_cons_zero, List.set_cons_succ]); try exact rfl
            apply al_wantedN
            · rfl
            · rfl
            · rfl
            · exact op_move_tmp (by rfl)
            · (try dsimp only [putT, List.set_cons_zero, List.set_cons_succ]); try exact rfl
            apply al_wantedN
            · rfl
            · rfl
            · rfl
            · exact op_callF Try.func13 (by rfl) (by rfl) (.tmp (by rfl) (.tmp (by rfl) .nil)) (by_ok _ _ _)
            · (try dsimp only [putT, List.set_cons_zero, List.set_cons_succ]); try exact rfl
            apply al_wantedN
            · rfl
            · rfl
            · rfl
            · exact op_move_tmp (by rfl)
            · (try dsimp only [putT, List.set_cons_zero, List.set_cons_succ]); try exact rfl
            apply al_wantedN
            · rfl
            · rfl
            · rfl
            · exact op_eqI (by rfl) (by rfl)
            · (try dsimp only [putT, List.set_cons_zero, List.set_cons_succ]); try exact rfl
            apply al_stepN
            · exact op_pick_tt (by rfl) (val_tmp (by rfl))
            · rfl
            · (try dsimp only [putT, List.set_cons_zero, List.set_cons_succ]); try exact rfl
            apply al_stepN
            · exact op_move_tmp (by rfl)
            · rfl
            · (try dsimp only [putT, List.set_cons_zero, List.set_cons_succ]); try exact rfl
            refine al_split 51 rfl (fun hg34 => ?_) (fun hg34 => ?_)
            · skip
              (try simp only [decide_eq_true_eq, decide_eq_false_iff_not, beq_iff_eq, beq_eq_false_iff_ne, Bool.not_eq_true', Bool.not_eq_false', bne_iff_ne, ne_eq, Decidable.not_not, bne_eq_false_iff_eq, List.length_map] at hg34)
              apply al_normT
              · (try dsimp only [putT, List.set_cons_zero, List.set_cons_succ]); try exact rfl
              apply al_wantedN
              · rfl
              · rfl
              · rfl
              · exact op_move_tmp (by rfl)
              · (try dsimp only [putT, List.set_cons_zero, List.set_cons_succ]); try exact rfl
              apply al_stepN
              · exact op_pick_tt (by rfl) (val_tmp (by rfl))
              · rfl
              · (try dsimp only [putT, List.set_cons_zero, List.set_cons_succ]); try exact rfl
              apply al_stepN
              · exact op_move_tmp (by rfl)
              · rfl
              · (try dsimp only [putT, List.set_cons_zero, List.set_cons_succ]); try exact rfl
              refine al_split 54 rfl (fun hg35 => ?_) (fun hg35 => ?_)
              · skip
                (try simp only [decide_eq_true_eq, decide_eq_false_iff_not, beq_iff_eq, beq_eq_false_iff_ne, Bool.not_eq_true', Bool.not_eq_false', bne_iff_ne, ne_eq, Decidable.not_not, bne_eq_false_iff_eq, List.length_map] at hg35)
                apply al_normT
                · (try dsimp only [putT, List.set_cons_zero, List.set_cons_succ]); try exact rfl
                apply al_wantedN
                · rfl
                · rfl
                · rfl
                · exact op_move_tmp (by rfl)
                · (try dsimp only [putT, List.set_cons_zero, List.set_cons_succ]); try exact rfl
                apply al_wantedN
                · rfl
                · rfl
                · rfl
                · exact op_move_tmp (by rfl)
                · (try dsimp only [putT, List.set_cons_zero, List.set_cons_succ]); try exact rfl
                apply al_wantedN
                · rfl
                · rfl
                · rfl
                · exact op_eqI (by rfl) (by rfl)
                · (try dsimp only [putT, List.set_cons_zero, List.set_cons_succ]); try exact rfl
                apply al_stepN
                · exact op_pick_tt (by rfl) (val_tmp (by rfl))
                · rfl
                · (try dsimp only [putT, List.set_cons_zero, List.set_cons_succ]); try exact rfl
                apply al_stepN
                · exact op_move_tmp (by rfl)
                · rfl
                · (try dsimp only [putT, List.set_cons_zero, List.set_cons_succ]); try exact rfl
                refine al_split 59 rfl (fun hg36 => ?_) (fun hg36 => ?_)
                · skip
                  (try simp only [decide_eq_true_eq, decide_eq_false_iff_not, beq_iff_eq, beq_eq_false_iff_ne, Bool.not_eq_true', Bool.not_eq_false', bne_iff_ne, ne_eq, Decidable.not_not, bne_eq_false_iff_eq, List.length_map] at hg36)
                  apply al_normT
                  · (try dsimp only [putT, List.set_cons_zero, List.set_cons_succ]); try exact rfl
                  apply al_wantedN
                  · rfl
                  · rfl
                  · rfl
                  · exact op_move_tmp (by rfl)
                  · (try dsimp only [putT, List.set_cons_zero, List.set_cons_succ]); try exact rfl
                  apply al_wantedN
                  · rfl
                  · rfl
                  · rfl
                  · exact op_move_tmp (by rfl)
                  · (try dsimp only [putT, List.set_cons_zero, List.set_cons_succ]); try exact rfl
                  apply al_wantedN
                  · rfl
                  · rfl
                  · rfl
                  · exact op_lenS Try.underlying9 (by rfl)
                  · (try dsimp only [putT, List.set_cons_zero, List.set_cons_succ]); try exact rfl
                  apply al_wantedN
                  · rfl
                  · rfl
                  · rfl
                  · exact op_eqI (by rfl) (by rfl)
                  · (try dsimp only [putT, List.set_cons_zero, List.set_cons_succ]); try exact rfl
                  apply al_wantedN
                  · rfl
                  · rfl
                  · rfl
                  · exact op_eqB Try.underlying4 (by rfl) (by rfl)
                  · (try dsimp only [putT, List.set_cons_zero, List.set_cons_succ]); try exact rfl
                  apply al_stepN
                  · exact op_pick_tt (by rfl) (val_tmp (by rfl))
                  · rfl
                  · (try dsimp only [putT, List.set_cons_zero, List.set_cons_succ]); try exact rfl
                  apply al_stepN
                  · exact op_move_tmp (by rfl)
                  · rfl
                  · (try dsimp only [putT, List.set_cons_zero, List.set_cons_succ]); try exact rfl
                  refine al_split 66 rfl (fun hg37 => ?_) (fun hg37 => ?_)
                  · skip
                    (try simp only [decide_eq_true_eq, decide_eq_false_iff_not, beq_iff_eq, beq_eq_false_iff_ne, Bool.not_eq_true', Bool.not_eq_false', bne_iff_ne, ne_eq, Decidable.not_not, bne_eq_false_iff_eq, List.length_map] at hg37)
                    apply al_normT
                    · (try dsimp only [putT, List.set_cons_zero, List.set_cons_succ]); try exact rfl
                    apply al_wantedN
                    · rfl
                    · rfl
                    · rfl
                    · exact op_move_tmp (by rfl)
                    · (try dsimp only [putT, List.set_cons_zero, List.set_cons_succ]); try exact rfl
                    apply al_wantedN
                    · rfl
                    · rfl
                    · rfl
                    · exact op_not (by rfl)
                    · (try dsimp only [putT, List.set_cons_zero, List.set_cons_succ]); try exact rfl
                    apply al_wantedN
                    · rfl
                    · rfl
                    · rfl
                    · exact op_move_tmp (by rfl)
                    · (try dsimp only [putT, List.set_cons_zero, List.set_cons_succ]); try exact rfl
                    refine al_split 69 rfl (fun hg38 => ?_) (fun hg38 => ?_)
                    · skip
                      (try simp only [decide_eq_true_eq, decide_eq_false_iff_not, beq_iff_eq, beq_eq_false_iff_ne, Bool.not_eq_true', Bool.not_eq_false', bne_iff_ne, ne_eq, Decidable.not_not, bne_eq_false_iff_eq, List.length_map] at hg38)
                      apply al_normT
                      · (try dsimp only [putT, List.set_cons_zero, List.set_cons_succ]); try exact rfl
                      refine al_unwanted rfl rfl rfl rfl ?_
                      apply al_normT
                      · (try dsimp only [putT, List.set_cons_zero, List.set_cons_succ]); try exact rfl
                      refine al_unwanted rfl rfl rfl rfl ?_
                      apply al_normT
                      · (try dsimp only [putT, List.set_cons_zero, List.set_cons_succ]); try exact rfl
                      refine al_unwanted rfl rfl rfl rfl ?_
                      apply al_normT
                      · (try dsimp only [putT, List.set_cons_zero, List.set_cons_succ]); try exact rfl
                      refine al_unwanted rfl rfl rfl rfl ?_
                      apply al_normT
                      · (try dsimp only [putT, List.set_cons_zero, List.set_cons_succ]); try exact rfl
                      refine al_unwanted rfl rfl rfl rfl ?_
                      apply al_normT
                      · (try dsimp only [putT, List.set_cons_zero, List.set_cons_succ]); try exact rfl
                      apply al_wantedN
                      · rfl
                      · rfl
                      · rfl
                      · exact op_pick_tt (by rfl) (val_const (by rfl))
                      · (try dsimp only [putT, List.set_cons_zero, List.set_cons_succ]); try exact rfl
                      apply al_stepN
                      · exact op_pick_tt (by rfl) (val_tmp (by rfl))
                      · rfl
                      · (try dsimp only [putT, List.set_cons_zero, List.set_cons_succ]); try exact rfl
                      apply al_stepN
                      · exact op_move_tmp (by rfl)
                      · rfl
                      · (try dsimp only [putT, List.set_cons_zero, List.set_cons_succ]); try exact rfl
                      apply al_wantedN
                      · rfl
                      · rfl
                      · rfl
                      · exact op_move_tmp (by rfl)
                      · (try dsimp only [putT, List.set_cons_zero, List.set_cons_succ]); try exact rfl
                      apply al_wantedN
                      · rfl
                      · rfl
                      · rfl
                      · exact op_move_tmp (by rfl)
                      · (try dsimp only [putT, List.set_cons_zero, List.set_cons_succ]); try exact rfl
                      refine al_split 79 rfl (fun hg39 => ?_) (fun hg39 => ?_)
                      · skip
                        (try simp only [decide_eq_true_eq, decide_eq_false_iff_not, beq_iff_eq, beq_eq_false_iff_ne, Bool.not_eq_true', Bool.not_eq_false', bne_iff_ne, ne_eq, Decidable.not_not, bne_eq_false_iff_eq, List.length_map] at hg39)
                        apply al_normT
                        · (try dsimp only [putT, List.set_cons_zero, List.set_cons_succ]); try exact rfl
                        refine al_unwanted rfl rfl rfl rfl ?_
                        apply al_normT
                        · (try dsimp only [putT, List.set_cons_zero, List.set_cons_succ]); try exact rfl
                        refine al_unwanted rfl rfl rfl rfl ?_
                        apply al_normT
                        · (try dsimp only [putT, List.set_cons_zero, List.set_cons_succ]); try exact rfl
                        apply al_wantedN
                        · rfl
                        · rfl
                        · rfl
                        · exact op_pick_tt (by rfl) (val_const (by rfl))
                        · (try dsimp only [putT, List.set_cons_zero, List.set_cons_succ]); try exact rfl
                        apply al_stepN
                        · exact op_pick_tt (by rfl) (val_tmp (by rfl))
                        · rfl
                        · (try dsimp only [putT, List.set_cons_zero, List.set_cons_succ]); try exact rfl
                        apply al_stepN
                        · exact op_assign_tmp (by rfl)
                        · rfl
                        · (try dsimp only [putT, List.set_cons_zero, List.set_cons_succ]); try exact rfl
                        apply al_end
                        · (try dsimp only [putT, List.set_cons_zero, List.set_cons_succ]); try exact rfl
                        refine then_normal ?_
                        refine aw_ret ?_
                        refine retPost1 rfl rfl ?_
                        first | exact rfl | simp [numL_zero (by assumption), TF]
                      · skip
                        (try simp only [decide_eq_true_eq, decide_eq_false_iff_not, beq_iff_eq, beq_eq_false_iff_ne, Bool.not_eq_true', Bool.not_eq_false', bne_iff_ne, ne_eq, Decidable.not_not, bne_eq_false_iff_eq, List.length_map] at hg39)
                        apply al_normT
                        · (try dsimp only [putT, List.set_cons_zero, List.set_cons_succ]); try exact rfl
                        apply al_wantedN
                        · rfl
                        · rfl
                        · rfl
                        · exact op_move_tmp (by rfl)
                        · (try dsimp only [putT, List.set_cons_zero, List.set_cons_succ]); try exact rfl
                        apply al_wantedN
                        · rfl
                        · rfl
                        · rfl
                        · exact op_eqI (by rfl) (by rfl)
                        · (try dsimp only [putT, List.set_cons_zero, List.set_cons_succ]); try exact rfl
                        apply al_wantedN
                        · rfl
                        · rfl
                        · rfl
                        · exact op_pick_ff (by rfl) (val_tmp (by rfl))
                        · (try dsimp only [putT, List.set_cons_zero, List.set_cons_succ]); try exact rfl
                        apply al_stepN
                        · exact op_pick_tt (by rfl) (val_tmp (by rfl))
                        · rfl
                        · (try dsimp only [putT, List.set_cons_zero, List.set_cons_succ]); try exact rfl
                        apply al_stepN
                        · exact op_assign_tmp (by rfl)
                        · rfl
                        · (try dsimp only [putT, List.set_cons_zero, List.set_cons_succ]); try exact rfl
                        apply al_end
                        · (try dsimp only [putT, List.set_cons_zero, List.set_cons_succ]); try exact rfl
                        refine then_normal ?_
                        refine aw_ret ?_
                        refine retPost1 rfl rfl ?_
                        first | exact rfl | simp [numL_zero (by assumption), TF]
                    · skip
                      (try simp only [decide_eq_true_eq, decide_eq_false_iff_not, beq_iff_eq, beq_eq_false_iff_ne, Bool.not_eq_true', Bool.not_eq_false', bne_iff_ne, ne_eq, Decidable.not_not, bne_eq_false_iff_eq, List.length_map] at hg38)
                      apply al_normT
                      · (try dsimp only [putT, List.set_cons_zero, List.set_cons_succ]); try exact rfl
                      apply al_wantedN
                      · rfl
                      · rfl
                      · rfl
                      · exact op_move_tmp (by rfl)
                      · (try dsimp only [putT, List.set_cons_zero, List.set_cons_succ]); try exact rfl
                      apply al_wantedN
                      · rfl
                      · rfl
                      · rfl
                      · exact op_callF Try.func14 (by rfl) (by rfl) (.const (by rfl) (.tmp (by rfl) .nil)) (int_ok _ none _ [] (numL s).1 (App.nil _) (HS.ok_none _ _) (numL_i64 s) (by simp))
                      · (try dsimp only [putT, List.set_cons_zero, List.set_cons_succ]); try exact rfl
                      apply al_wantedN
                      · rfl
                      · rfl
                      · rfl
                      · exact op_string Try.underlying22 Try.underlying9 Try.underlying5 (LL.own _ _ _) (by rfl)
                      · (try dsimp only [putT, List.set_cons_zero, List.set_cons_succ]); try exact rfl
                      apply al_wantedN
                      · rfl
                      · rfl
                      · rfl
                      · exact op_move_tmp (by rfl)
                      · (try dsimp only [putT, List.set_cons_zero, List.set_cons_succ]); try exact rfl
                      apply al_wantedN
                      · rfl
                      · rfl
                      · rfl
                      · exact op_eqS (by rfl) (by rfl)
                      · (try dsimp only [putT, List.set_cons_zero, List.set_cons_succ]); try exact rfl
                      apply al_wantedN
                      · rfl
                      · rfl
                      · rfl
                      · exact op_pick_ff (by rfl) (val_tmp (by rfl))
                      · (try dsimp only [putT, List.set_cons_zero, List.set_cons_succ]); try exact rfl
                      apply al_stepN
                      · exact op_pick_tt (by rfl) (val_tmp (by rfl))
                      · rfl
                      · (try dsimp only [putT, List.set_cons_zero, List.set_cons_succ]); try exact rfl
                      apply al_stepN
                      · exact op_move_tmp (by rfl)
                      · rfl
                      · (try dsimp only [putT, List.set_cons_zero, List.set_cons_succ]); try exact rfl
                      refine al_split 77 rfl (fun hg40 => ?_) (fun hg40 => ?_)
                      · skip
                        (try simp only [decide_eq_true_eq, decide_eq_false_iff_not, beq_iff_eq, beq_eq_false_iff_ne, Bool.not_eq_true', Bool.not_eq_false', bne_iff_ne, ne_eq, Decidable.not_not, bne_eq_false_iff_eq, List.length_map] at hg40)
                        apply al_normT
                        · (try dsimp only [putT, List.set_cons_zero, List.set_cons_succ]); try exact rfl
                        apply al_wantedN
                        · rfl
                        · rfl
                        · rfl
                        · exact op_move_tmp (by rfl)
                        · (try dsimp only [putT, List.set_cons_zero, List.set_cons_succ]); try exact rfl
                        apply al_wantedN
                        · rfl
                        · rfl
                        · rfl
                        · exact op_move_tmp (by rfl)
                        · (try dsimp only [putT, List.set_cons_zero, List.set_cons_succ]); try exact rfl
                        refine al_split 79 rfl (fun hg41 => ?_) (fun hg41 => ?_)
                        · skip
                          (try simp only [decide_eq_true_eq, decide_eq_false_iff_not, beq_iff_eq, beq_eq_false_iff_ne, Bool.not_eq_true', Bool.not_eq_false', bne_iff_ne, ne_eq, Decidable.not_not, bne_eq_false_iff_eq, List.length_map] at hg41)
                          apply al_normT
                          · (try dsimp only [putT, List.set_cons_zero, List.set_cons_succ]); try exact rfl
                          refine al_unwanted rfl rfl rfl rfl ?_
                          apply al_normT
                          · (try dsimp only [putT, List.set_cons_zero, List.set_cons_succ]); try exact rfl
                          refine al_unwanted rfl rfl rfl rfl ?_
                          apply al_normT
                          · (try dsimp only [putT, List.set_cons_zero, List.set_cons_succ]); try exact rfl
                          apply al_wantedN
                          · rfl
                          · rfl
                          · rfl
                          · exact op_pick_tt (by rfl) (val_const (by rfl))
                          · (try dsimp only [putT, List.set_cons_zero, List.set_cons_succ]); try exact rfl
                          apply al_stepN
                          · exact op_pick_tt (by rfl) (val_tmp (by rfl))
                          · rfl
                          · (try dsimp only [putT, List.set_cons_zero, List.set_cons_succ]); try exact rfl
                          apply al_stepN
                          · exact op_assign_tmp (by rfl)
                          · rfl
                          · (try dsimp only [putT, List.set_cons_zero, List.set_cons_succ]); try exact rfl
                          apply al_end
                          · (try dsimp only [putT, List.set_cons_zero, List.set_cons_succ]); try exact rfl
                          refine then_normal ?_
                          refine aw_ret ?_
                          refine retPost1 rfl rfl ?_
                          first | exact rfl | simp [numL_zero (by assumption), TF]
                        · skip
                          (try simp only [decide_eq_true_eq, decide_eq_false_iff_not, beq_iff_eq, beq_eq_false_iff_ne, Bool.not_eq_true', Bool.not_eq_false', bne_iff_ne, ne_eq, Decidable.not_not, bne_eq_false_iff_eq, List.length_map] at hg41)
                          apply al_normT
                          · (try dsimp only [putT, List.set_cons_zero, List.set_cons_succ]); try exact rfl
                          apply al_wantedN
                          · rfl
                          · rfl
                          · rfl
                          · exact op_move_tmp (by rfl)
                          · (try dsimp only [putT, List.set_cons_zero, List.set_cons_succ]); try exact rfl
                          apply al_wantedN
                          · rfl
                          · rfl
                          · rfl
                          · exact op_eqI (by rfl) (by rfl)
                          · (try dsimp only [putT, List.set_cons_zero, List.set_cons_succ]); try exact rfl
                          apply al_wantedN
                          · rfl
                          · rfl
                          · rfl
                          · exact op_pick_ff (by rfl) (val_tmp (by rfl))
                          · (try dsimp only [putT, List.set_cons_zero, List.set_cons_succ]); try exact rfl
                          apply al_stepN
                          · exact op_pick_tt (by rfl) (val_tmp (by rfl))
                          · rfl
                          · (try dsimp only [putT, List.set_cons_zero, List.set_cons_succ]); try exact rfl
                          apply al_stepN
                          · exact op_assign_tmp (by rfl)
                          · rfl
                          · (try dsimp only [putT, List.set_cons_zero, List.set_cons_succ]); try exact rfl
                          apply al_end
                          · (try dsimp only [putT, List.set_cons_zero, List.set_cons_succ]); try exact rfl
                          refine then_normal ?_
                          refine aw_ret ?_
                          refine retPost1 rfl rfl ?_
                          first | exact rfl | simp [numL_zero (by assumption), TF]
                      · skip
                        (try simp only [decide_eq_true_eq, decide_eq_false_iff_not, beq_iff_eq, beq_eq_false_iff_ne, Bool.not_eq_true', Bool.not_eq_false', bne_iff_ne, ne_eq, Decidable.not_not, bne_eq_false_iff_eq, List.length_map] at hg40)
                        apply al_normT
                        · (try dsimp only [putT, List.set_cons_zero, List.set_cons_succ]); try exact rfl
                        exact absurd (numL_back (by assumption)) hg40
                  · skip
                    (try simp only [decide_eq_true_eq, decide_eq_false_iff_not, beq_iff_eq, beq_eq_false_iff_ne, Bool.not_eq_true', Bool.not_eq_false', bne_iff_ne, ne_eq, Decidable.not_not, bne_eq_false_iff_eq, List.length_map] at hg37)
                    apply al_normT
                    · (try dsimp only [putT, List.set_cons_zero, List.set_cons_succ]); try exact rfl
                    exact absurd (by rw [numL_ok, Bool.eq_iff_iff]; simp; omega) hg37
                · skip
                  (try simp only [decide_eq_true_eq, decide_eq_false_iff_not, beq_iff_eq, beq_eq_false_iff_ne, Bool.not_eq_true', Bool.not_eq_false', bne_iff_ne, ne_eq, Decidable.not_not, bne_eq_false_iff_eq, List.length_map] at hg36)
                  apply al_normT
                  · (try dsimp only [putT, List.set_cons_zero, List.set_cons_succ]); try exact rfl
                  exact absurd (by simp [numL_encI ha]) hg36
              · skip
                (try simp only [decide_eq_true_eq, decide_eq_false_iff_not, beq_iff_eq, beq_eq_false_iff_ne, Bool.not_eq_true', Bool.not_eq_false', bne_iff_ne, ne_eq, Decidable.not_not, bne_eq_false_iff_eq, List.length_map] at hg35)
                apply al_normT
                · (try dsimp only [putT, List.set_cons_zero, List.set_cons_succ]); try exact rfl
                simp [numL_encI ha] at hg35
            · skip
              (try simp only [decide_eq_true_eq, decide_eq_false_iff_not, beq_iff_eq, beq_eq_false_iff_ne, Bool.not_eq_true', Bool.not_eq_false', bne_iff_ne, ne_eq, Decidable.not_not, bne_eq_false_iff_eq, List.length_map] at hg34)
              apply al_normT
              · (try dsimp only [putT, List.set_cons_zero, List.set_cons_succ]); try exact rfl
              exact absurd (by rw [List.nil_append, List.nil_append, byL_encI ha hb]; (repeat' split) <;> omega) hg34
          · skip
            (try simp only [decide_eq_true_eq, decide_eq_false_iff_not, beq_iff_eq, beq_eq_false_iff_ne, Bool.not_eq_true', Bool.not_eq_false', bne_iff_ne, ne_eq, Decidable.not_not, bne_eq_false_iff_eq, List.length_map] at hg33)
            apply al_normT
            · (try dsimp only [putT, List.set_cons_zero, List.set_cons_succ]); try exact rfl
            exact absurd (by simp [encI_len]) hg33
end Go.Proofs.Ytlphmahlchgafaa
