/- What the law ValReads comes to. -/
import Derived.Test.YtadkehaagkjbhaaValU
import Derived.KernelRfl
namespace Go.Proofs.Ytadkehaagkjbhaa
open Go.AV Go.AV.Ord Go.AV.Oct Go.AV.Val
set_option linter.unusedVariables false
set_option linter.unusedSimpArgs false
set_option maxRecDepth 100000 in
theorem valReads_walk (Hs : HS) (s : List UInt8) : ACalls Try.prog 9 [.d (S s)] Hs (fun av _ => av = .d (TF true)) := by
  refine acalls_of_aw Try.func9 rfl ?_
  refine aw_start (T' := ((.d (S s)) :: .un :: .un :: .un :: .un :: .un :: .un :: .un :: .un :: .un :: .un :: .un :: .un :: .un :: .un :: .un :: .un :: .un :: .un :: .un :: .un :: .un :: .un :: .un :: .un :: .un :: .un :: .un :: .un :: .un :: .un :: .un :: .un :: .un :: .un :: .un :: .un :: .un :: .un :: .un :: .un :: .un :: .un :: .un :: .un :: .un :: .un :: .un :: .un :: .un :: .un :: .un :: .un :: .un :: .un :: .un :: .un :: .un :: .un :: .un :: .un :: .un :: .un :: .un :: [])) rfl ?_
  refine aw_seq ?_
  refine aw_region ?_
  apply al_stepN
  · exact op_assign_const (by rfl)
  · rfl
  · (try dsimp only [putT, List.set_cons_zero, List.set_cons_succ]); try exact rfl
  apply al_end
  · (try dsimp only [putT, List.set_cons_zero, List.set_cons_succ]); try exact rfl
  refine then_normal ?_
  refine aw_seq ?_
  refine aw_seq ?_
  refine aw_region ?_
  apply al_stepN
  · exact op_callF Try.func40 (by rfl) (by rfl) .nil (vhead_ok _)
  · rfl
  · (try dsimp only [putT, List.set_cons_zero, List.set_cons_succ]); try exact rfl
  apply al_stepN
  · exact op_not (by rfl)
  · rfl
  · (try dsimp only [putT, List.set_cons_zero, List.set_cons_succ]); try exact rfl
  apply al_end
  · (try dsimp only [putT, List.set_cons_zero, List.set_cons_succ]); try exact rfl
  refine then_normal ?_
  refine aw_cond rfl (fun hc1 => ?_) (fun hc1 => ?_)
  · skip
    (try simp only [decide_eq_true_eq, decide_eq_false_iff_not, beq_iff_eq, beq_eq_false_iff_ne, Bool.not_eq_true', Bool.not_eq_false', bne_iff_ne, ne_eq, Decidable.not_not, bne_eq_false_iff_eq, List.length_map] at hc1)
    exact absurd hc1 (by decide)
  · skip
    (try simp only [decide_eq_true_eq, decide_eq_false_iff_not, beq_iff_eq, beq_eq_false_iff_ne, Bool.not_eq_true', Bool.not_eq_false', bne_iff_ne, ne_eq, Decidable.not_not, bne_eq_false_iff_eq, List.length_map] at hc1)
    refine aw_skip ?_
    refine then_normal ?_
    refine aw_seq ?_
    refine aw_seq ?_
    refine aw_region ?_
    apply al_stepN
    · exact op_move_tmp (by rfl)
    · rfl
    · (try dsimp only [putT, List.set_cons_zero, List.set_cons_succ]); try exact rfl
    apply al_stepN
    · exact op_lenS Try.underlying9 (by rfl)
    · rfl
    · (try dsimp only [putT, List.set_cons_zero, List.set_cons_succ]); try exact rfl
    apply al_stepN
    · exact op_gtI (by rfl) (by rfl)
    · rfl
    · (try dsimp only [putT, List.set_cons_zero, List.set_cons_succ]); try exact rfl
    apply al_end
    · (try dsimp only [putT, List.set_cons_zero, List.set_cons_succ]); try exact rfl
    refine then_normal ?_
    refine aw_cond rfl (fun hc2 => ?_) (fun hc2 => ?_)
    · skip
      (try simp only [decide_eq_true_eq, decide_eq_false_iff_not, beq_iff_eq, beq_eq_false_iff_ne, Bool.not_eq_true', Bool.not_eq_false', bne_iff_ne, ne_eq, Decidable.not_not, bne_eq_false_iff_eq, List.length_map] at hc2)
      refine aw_seq ?_
      refine aw_region ?_
      apply al_stepN
      · exact op_assign_const (by rfl)
      · rfl
      · (try dsimp only [putT, List.set_cons_zero, List.set_cons_succ]); try exact rfl
      apply al_end
      · (try dsimp only [putT, List.set_cons_zero, List.set_cons_succ]); try exact rfl
      refine then_normal ?_
      refine aw_ret ?_
      refine then_ret ?_
      refine retPost1 rfl rfl ?_
      first | exact rfl | (rw [h1]; rfl) | (simp [TF]; done)
    · skip
      (try simp only [decide_eq_true_eq, decide_eq_false_iff_not, beq_iff_eq, beq_eq_false_iff_ne, Bool.not_eq_true', Bool.not_eq_false', bne_iff_ne, ne_eq, Decidable.not_not, bne_eq_false_iff_eq, List.length_map] at hc2)
      have hs5 : s.length ≤ 5000 := by omega
      refine aw_skip ?_
      refine then_normal ?_
      refine aw_seq ?_
      refine aw_region ?_
      apply al_stepN
      · exact op_move_tmp (by rfl)
      · rfl
      · (try dsimp only [putT, List.set_cons_zero, List.set_cons_succ]); try exact rfl
      apply al_stepN
      · exact op_callF Try.func44 (by rfl) (by rfl) (.tmp (by rfl) .nil) (vdec_ok _ s)
      · rfl
      · (try dsimp only [putT, List.set_cons_zero, List.set_cons_succ]); try exact rfl
      apply al_stepN
      · exact op_move_tmp (by rfl)
      · rfl
      · (try dsimp only [putT, List.set_cons_zero, List.set_cons_succ]); try exact rfl
      apply al_stepN
      · exact op_extract (by rfl) (by rfl)
      · rfl
      · (try dsimp only [putT, List.set_cons_zero, List.set_cons_succ]); try exact rfl
      apply al_stepN
      · exact op_extract (by rfl) (by rfl)
      · rfl
      · (try dsimp only [putT, List.set_cons_zero, List.set_cons_succ]); try exact rfl
      apply al_stepN
      · exact op_alloc (Zr37) (by rfl)
      · rfl
      · (try dsimp only [putT, List.set_cons_zero, List.set_cons_succ]); try exact rfl
      apply al_stepN
      · exact op_storeV (b' := ⟨37, (vC (decV s).1).map .d, false⟩) (decV s).1 Sz37 (by rfl) push_at (by rfl) (Nat.le_of_ble_eq_true rfl) (by rfl) (by rw [vC_eq]; rfl)
      · rfl
      · (try dsimp only [putT, List.set_cons_zero, List.set_cons_succ]); try exact rfl
      apply al_stepN
      · exact op_assign_tmp (by rfl)
      · rfl
      · (try dsimp only [putT, List.set_cons_zero, List.set_cons_succ]); try exact rfl
      apply al_end
      · (try dsimp only [putT, List.set_cons_zero, List.set_cons_succ]); try exact rfl
      refine then_normal ?_
      refine aw_seq ?_
      refine aw_seq ?_
      refine aw_region ?_
      apply al_stepN
      · exact op_move_tmp (by rfl)
      · rfl
      · (try dsimp only [putT, List.set_cons_zero, List.set_cons_succ]); try exact rfl
      apply al_stepN
      · exact op_neI (by rfl) (by rfl)
      · rfl
      · (try dsimp only [putT, List.set_cons_zero, List.set_cons_succ]); try exact rfl
      apply al_end
      · (try dsimp only [putT, List.set_cons_zero, List.set_cons_succ]); try exact rfl
      refine then_normal ?_
      refine aw_cond rfl (fun hc3 => ?_) (fun hc3 => ?_)
      · skip
        (try simp only [decide_eq_true_eq, decide_eq_false_iff_not, beq_iff_eq, beq_eq_false_iff_ne, Bool.not_eq_true', Bool.not_eq_false', bne_iff_ne, ne_eq, Decidable.not_not, bne_eq_false_iff_eq, List.length_map] at hc3)
        have he : ¬ (decV s).2 = 0 := hc3
        obtain ⟨h1, h2⟩ := decV_err he
        have h3 := decV_long he
        refine aw_seq ?_
        refine aw_region ?_
        apply al_stepN
        · exact op_move_tmp (by rfl)
        · rfl
        · (try dsimp only [putT, List.set_cons_zero, List.set_cons_succ]); try exact rfl
        apply al_stepN
        · exact op_eqI (by rfl) (by rfl)
        · rfl
        · (try dsimp only [putT, List.set_cons_zero, List.set_cons_succ]); try exact rfl
        apply al_stepN
        · exact op_move_tmp (by rfl)
        · rfl
        · (try dsimp only [putT, List.set_cons_zero, List.set_cons_succ]); try exact rfl
        refine al_split 21 rfl (fun hg4 => ?_) (fun hg4 => ?_)
        · skip
          (try simp only [decide_eq_true_eq, decide_eq_false_iff_not, beq_iff_eq, beq_eq_false_iff_ne, Bool.not_eq_true', Bool.not_eq_false', bne_iff_ne, ne_eq, Decidable.not_not, bne_eq_false_iff_eq, List.length_map] at hg4)
          apply al_normT
          · (try dsimp only [putT, List.set_cons_zero, List.set_cons_succ]); try exact rfl
          refine al_unwanted rfl rfl rfl rfl ?_
          apply al_normT
          · (try dsimp only [putT, List.set_cons_zero, List.set_cons_succ]); try exact rfl
          refine al_unwanted rfl rfl rfl rfl ?_
          apply al_normT
          · (try dsimp only [putT, List.set_cons_zero, List.set_cons_succ]); try exact rfl
          apply al_stepN
          · exact op_pick_tt (by rfl) (val_const (by rfl))
          · rfl
          · (try dsimp only [putT, List.set_cons_zero, List.set_cons_succ]); try exact rfl
          apply al_stepN
          · exact op_move_tmp (by rfl)
          · rfl
          · (try dsimp only [putT, List.set_cons_zero, List.set_cons_succ]); try exact rfl
          refine al_unwanted rfl rfl rfl rfl ?_
          apply al_normT
          · (try dsimp only [putT, List.set_cons_zero, List.set_cons_succ]); try exact rfl
          refine al_unwanted rfl rfl rfl rfl ?_
          apply al_normT
          · (try dsimp only [putT, List.set_cons_zero, List.set_cons_succ]); try exact rfl
          apply al_stepN
          · exact op_pick_tt (by rfl) (val_const (by rfl))
          · rfl
          · (try dsimp only [putT, List.set_cons_zero, List.set_cons_succ]); try exact rfl
          apply al_stepN
          · exact op_move_tmp (by rfl)
          · rfl
          · (try dsimp only [putT, List.set_cons_zero, List.set_cons_succ]); try exact rfl
          apply al_wantedN
          · rfl
          · rfl
          · rfl
          · exact op_move_tmp (by rfl)
          · (try dsimp only [putT, List.set_cons_zero, List.set_cons_succ]); try exact rfl
          apply al_wantedN
          · rfl
          · rfl
          · rfl
          · exact op_eqI (by rfl) (by rfl)
          · (try dsimp only [putT, List.set_cons_zero, List.set_cons_succ]); try exact rfl
          apply al_wantedN
          · rfl
          · rfl
          · rfl
          · exact op_move_tmp (by rfl)
          · (try dsimp only [putT, List.set_cons_zero, List.set_cons_succ]); try exact rfl
          apply al_wantedN
          · rfl
          · rfl
          · rfl
          · exact op_lenS Try.underlying9 (by rfl)
          · (try dsimp only [putT, List.set_cons_zero, List.set_cons_succ]); try exact rfl
          apply al_wantedN
          · rfl
          · rfl
          · rfl
          · exact op_gtI (by rfl) (by rfl)
          · (try dsimp only [putT, List.set_cons_zero, List.set_cons_succ]); try exact rfl
          apply al_wantedN
          · rfl
          · rfl
          · rfl
          · exact op_eqB Try.underlying4 (by rfl) (by rfl)
          · (try dsimp only [putT, List.set_cons_zero, List.set_cons_succ]); try exact rfl
          apply al_stepN
          · exact op_pick_tt (by rfl) (val_tmp (by rfl))
          · rfl
          · (try dsimp only [putT, List.set_cons_zero, List.set_cons_succ]); try exact rfl
          apply al_stepN
          · exact op_move_tmp (by rfl)
          · rfl
          · (try dsimp only [putT, List.set_cons_zero, List.set_cons_succ]); try exact rfl
          refine al_split 37 rfl (fun hg5 => ?_) (fun hg5 => ?_)
          · skip
            (try simp only [decide_eq_true_eq, decide_eq_false_iff_not, beq_iff_eq, beq_eq_false_iff_ne, Bool.not_eq_true', Bool.not_eq_false', bne_iff_ne, ne_eq, Decidable.not_not, bne_eq_false_iff_eq, List.length_map] at hg5)
            apply al_normT
            · (try dsimp only [putT, List.set_cons_zero, List.set_cons_succ]); try exact rfl
            apply al_wantedN
            · rfl
            · rfl
            · rfl
            · first | exact op_fieldAddr_ptr Try.underlying37 rfl Sz33 (by rfl) (by rfl) | exact op_fieldAddr_elt Try.underlying37 rfl Sz33 (by rfl) (by rfl) (by rfl)
            · (try dsimp only [putT, List.set_cons_zero, List.set_cons_succ]); try exact rfl
            apply al_wantedN
            · rfl
            · rfl
            · rfl
            · exact op_load_ptr Try.underlying33 (by rfl) (by rfl) (setB_at push_at) (vC_at0 _)
            · (try dsimp only [putT, List.set_cons_zero, List.set_cons_succ]); try exact rfl
            apply al_wantedN
            · rfl
            · rfl
            · rfl
            · exact op_eqI (by rfl) (by rfl)
            · (try dsimp only [putT, List.set_cons_zero, List.set_cons_succ]); try exact rfl
            apply al_stepN
            · exact op_pick_tt (by rfl) (val_tmp (by rfl))
            · rfl
            · (try dsimp only [putT, List.set_cons_zero, List.set_cons_succ]); try exact rfl
            apply al_stepN
            · exact op_move_tmp (by rfl)
            · rfl
            · (try dsimp only [putT, List.set_cons_zero, List.set_cons_succ]); try exact rfl
            refine al_split 42 rfl (fun hg6 => ?_) (fun hg6 => ?_)
            · skip
              (try simp only [decide_eq_true_eq, decide_eq_false_iff_not, beq_iff_eq, beq_eq_false_iff_ne, Bool.not_eq_true', Bool.not_eq_false', bne_iff_ne, ne_eq, Decidable.not_not, bne_eq_false_iff_eq, List.length_map] at hg6)
              apply al_normT
              · (try dsimp only [putT, List.set_cons_zero, List.set_cons_succ]); try exact rfl
              apply al_wantedN
              · rfl
              · rfl
              · rfl
              · first | exact op_fieldAddr_ptr Try.underlying37 rfl Sz34 (by rfl) (by rfl) | exact op_fieldAddr_elt Try.underlying37 rfl Sz34 (by rfl) (by rfl) (by rfl)
              · (try dsimp only [putT, List.set_cons_zero, List.set_cons_succ]); try exact rfl
              apply al_wantedN
              · rfl
              · rfl
              · rfl
              · exact op_load_ptr Try.underlying34 (by rfl) (by rfl) (setB_at push_at) (vC_at4 _)
              · (try dsimp only [putT, List.set_cons_zero, List.set_cons_succ]); try exact rfl
              apply al_wantedN
              · rfl
              · rfl
              · rfl
              · exact op_lenL Try.underlying34 (by first | exact LL.d _ _ | exact LL.own _ _ _ | exact LL.nil _ | assumption)
              · (try dsimp only [putT, List.set_cons_zero, List.set_cons_succ]); try exact rfl
              apply al_wantedN
              · rfl
              · rfl
              · rfl
              · exact op_eqI (by rfl) (by rfl)
              · (try dsimp only [putT, List.set_cons_zero, List.set_cons_succ]); try exact rfl
              apply al_stepN
              · exact op_pick_tt (by rfl) (val_tmp (by rfl))
              · rfl
              · (try dsimp only [putT, List.set_cons_zero, List.set_cons_succ]); try exact rfl
              apply al_stepN
              · exact op_assign_tmp (by rfl)
              · rfl
              · (try dsimp only [putT, List.set_cons_zero, List.set_cons_succ]); try exact rfl
              apply al_end
              · (try dsimp only [putT, List.set_cons_zero, List.set_cons_succ]); try exact rfl
              refine then_normal ?_
              refine aw_ret ?_
              refine then_ret ?_
              refine retPost1 rfl rfl ?_
              first | exact rfl | (rw [h1]; rfl) | (simp [TF]; done)
            · skip
              (try simp only [decide_eq_true_eq, decide_eq_false_iff_not, beq_iff_eq, beq_eq_false_iff_ne, Bool.not_eq_true', Bool.not_eq_false', bne_iff_ne, ne_eq, Decidable.not_not, bne_eq_false_iff_eq, List.length_map] at hg6)
              apply al_normT
              · (try dsimp only [putT, List.set_cons_zero, List.set_cons_succ]); try exact rfl
              exact absurd (by rw [h1]; rfl) hg6
          · skip
            (try simp only [decide_eq_true_eq, decide_eq_false_iff_not, beq_iff_eq, beq_eq_false_iff_ne, Bool.not_eq_true', Bool.not_eq_false', bne_iff_ne, ne_eq, Decidable.not_not, bne_eq_false_iff_eq, List.length_map] at hg5)
            apply al_normT
            · (try dsimp only [putT, List.set_cons_zero, List.set_cons_succ]); try exact rfl
            exact absurd hg5 (by simp [h3])
        · skip
          (try simp only [decide_eq_true_eq, decide_eq_false_iff_not, beq_iff_eq, beq_eq_false_iff_ne, Bool.not_eq_true', Bool.not_eq_false', bne_iff_ne, ne_eq, Decidable.not_not, bne_eq_false_iff_eq, List.length_map] at hg4)
          apply al_normT
          · (try dsimp only [putT, List.set_cons_zero, List.set_cons_succ]); try exact rfl
          apply al_wantedN
          · rfl
          · rfl
          · rfl
          · exact op_move_tmp (by rfl)
          · (try dsimp only [putT, List.set_cons_zero, List.set_cons_succ]); try exact rfl
          apply al_wantedN
          · rfl
          · rfl
          · rfl
          · exact op_eqI (by rfl) (by rfl)
          · (try dsimp only [putT, List.set_cons_zero, List.set_cons_succ]); try exact rfl
          apply al_stepN
          · exact op_pick_ff (by rfl) (val_tmp (by rfl))
          · rfl
          · (try dsimp only [putT, List.set_cons_zero, List.set_cons_succ]); try exact rfl
          apply al_stepN
          · exact op_move_tmp (by rfl)
          · rfl
          · (try dsimp only [putT, List.set_cons_zero, List.set_cons_succ]); try exact rfl
          refine al_split 25 rfl (fun hg7 => ?_) (fun hg7 => ?_)
          · skip
            (try simp only [decide_eq_true_eq, decide_eq_false_iff_not, beq_iff_eq, beq_eq_false_iff_ne, Bool.not_eq_true', Bool.not_eq_false', bne_iff_ne, ne_eq, Decidable.not_not, bne_eq_false_iff_eq, List.length_map] at hg7)
            apply al_normT
            · (try dsimp only [putT, List.set_cons_zero, List.set_cons_succ]); try exact rfl
            refine al_unwanted rfl rfl rfl rfl ?_
            apply al_normT
            · (try dsimp only [putT, List.set_cons_zero, List.set_cons_succ]); try exact rfl
            refine al_unwanted rfl rfl rfl rfl ?_
            apply al_normT
            · (try dsimp only [putT, List.set_cons_zero, List.set_cons_succ]); try exact rfl
            apply al_stepN
            · exact op_pick_tt (by rfl) (val_const (by rfl))
            · rfl
            · (try dsimp only [putT, List.set_cons_zero, List.set_cons_succ]); try exact rfl
            apply al_stepN
            · exact op_move_tmp (by rfl)
            · rfl
            · (try dsimp only [putT, List.set_cons_zero, List.set_cons_succ]); try exact rfl
            apply al_wantedN
            · rfl
            · rfl
            · rfl
            · exact op_move_tmp (by rfl)
            · (try dsimp only [putT, List.set_cons_zero, List.set_cons_succ]); try exact rfl
            apply al_wantedN
            · rfl
            · rfl
            · rfl
            · exact op_eqI (by rfl) (by rfl)
            · (try dsimp only [putT, List.set_cons_zero, List.set_cons_succ]); try exact rfl
            apply al_wantedN
            · rfl
            · rfl
            · rfl
            · exact op_move_tmp (by rfl)
            · (try dsimp only [putT, List.set_cons_zero, List.set_cons_succ]); try exact rfl
            apply al_wantedN
            · rfl
            · rfl
            · rfl
            · exact op_lenS Try.underlying9 (by rfl)
            · (try dsimp only [putT, List.set_cons_zero, List.set_cons_succ]); try exact rfl
            apply al_wantedN
            · rfl
            · rfl
            · rfl
            · exact op_gtI (by rfl) (by rfl)
            · (try dsimp only [putT, List.set_cons_zero, List.set_cons_succ]); try exact rfl
            apply al_wantedN
            · rfl
            · rfl
            · rfl
            · exact op_eqB Try.underlying4 (by rfl) (by rfl)
            · (try dsimp only [putT, List.set_cons_zero, List.set_cons_succ]); try exact rfl
            apply al_stepN
            · exact op_pick_tt (by rfl) (val_tmp (by rfl))
            · rfl
            · (try dsimp only [putT, List.set_cons_zero, List.set_cons_succ]); try exact rfl
            apply al_stepN
            · exact op_move_tmp (by rfl)
            · rfl
            · (try dsimp only [putT, List.set_cons_zero, List.set_cons_succ]); try exact rfl
            refine al_split 37 rfl (fun hg8 => ?_) (fun hg8 => ?_)
            · skip
              (try simp only [decide_eq_true_eq, decide_eq_false_iff_not, beq_iff_eq, beq_eq_false_iff_ne, Bool.not_eq_true', Bool.not_eq_false', bne_iff_ne, ne_eq, Decidable.not_not, bne_eq_false_iff_eq, List.length_map] at hg8)
              apply al_normT
              · (try dsimp only [putT, List.set_cons_zero, List.set_cons_succ]); try exact rfl
              apply al_wantedN
              · rfl
              · rfl
              · rfl
              · first | exact op_fieldAddr_ptr Try.underlying37 rfl Sz33 (by rfl) (by rfl) | exact op_fieldAddr_elt Try.underlying37 rfl Sz33 (by rfl) (by rfl) (by rfl)
              · (try dsimp only [putT, List.set_cons_zero, List.set_cons_succ]); try exact rfl
              apply al_wantedN
              · rfl
              · rfl
              · rfl
              · exact op_load_ptr Try.underlying33 (by rfl) (by rfl) (setB_at push_at) (vC_at0 _)
              · (try dsimp only [putT, List.set_cons_zero, List.set_cons_succ]); try exact rfl
              apply al_wantedN
              · rfl
              · rfl
              · rfl
              · exact op_eqI (by rfl) (by rfl)
              · (try dsimp only [putT, List.set_cons_zero, List.set_cons_succ]); try exact rfl
              apply al_stepN
              · exact op_pick_tt (by rfl) (val_tmp (by rfl))
              · rfl
              · (try dsimp only [putT, List.set_cons_zero, List.set_cons_succ]); try exact rfl
              apply al_stepN
              · exact op_move_tmp (by rfl)
              · rfl
              · (try dsimp only [putT, List.set_cons_zero, List.set_cons_succ]); try exact rfl
              refine al_split 42 rfl (fun hg9 => ?_) (fun hg9 => ?_)
              · skip
                (try simp only [decide_eq_true_eq, decide_eq_false_iff_not, beq_iff_eq, beq_eq_false_iff_ne, Bool.not_eq_true', Bool.not_eq_false', bne_iff_ne, ne_eq, Decidable.not_not, bne_eq_false_iff_eq, List.length_map] at hg9)
                apply al_normT
                · (try dsimp only [putT, List.set_cons_zero, List.set_cons_succ]); try exact rfl
                apply al_wantedN
                · rfl
                · rfl
                · rfl
                · first | exact op_fieldAddr_ptr Try.underlying37 rfl Sz34 (by rfl) (by rfl) | exact op_fieldAddr_elt Try.underlying37 rfl Sz34 (by rfl) (by rfl) (by rfl)
                · (try dsimp only [putT, List.set_cons_zero, List.set_cons_succ]); try exact rfl
                apply al_wantedN
                · rfl
                · rfl
                · rfl
                · exact op_load_ptr Try.underlying34 (by rfl) (by rfl) (setB_at push_at) (vC_at4 _)
                · (try dsimp only [putT, List.set_cons_zero, List.set_cons_succ]); try exact rfl
                apply al_wantedN
                · rfl
                · rfl
                · rfl
                · exact op_lenL Try.underlying34 (by first | exact LL.d _ _ | exact LL.own _ _ _ | exact LL.nil _ | assumption)
                · (try dsimp only [putT, List.set_cons_zero, List.set_cons_succ]); try exact rfl
                apply al_wantedN
                · rfl
                · rfl
                · rfl
                · exact op_eqI (by rfl) (by rfl)
                · (try dsimp only [putT, List.set_cons_zero, List.set_cons_succ]); try exact rfl
                apply al_stepN
                · exact op_pick_tt (by rfl) (val_tmp (by rfl))
                · rfl
                · (try dsimp only [putT, List.set_cons_zero, List.set_cons_succ]); try exact rfl
                apply al_stepN
                · exact op_assign_tmp (by rfl)
                · rfl
                · (try dsimp only [putT, List.set_cons_zero, List.set_cons_succ]); try exact rfl
                apply al_end
                · (try dsimp only [putT, List.set_cons_zero, List.set_cons_succ]); try exact rfl
                refine then_normal ?_
                refine aw_ret ?_
                refine then_ret ?_
                refine retPost1 rfl rfl ?_
                first | exact rfl | (rw [h1]; rfl) | (simp [TF]; done)
              · skip
                (try simp only [decide_eq_true_eq, decide_eq_false_iff_not, beq_iff_eq, beq_eq_false_iff_ne, Bool.not_eq_true', Bool.not_eq_false', bne_iff_ne, ne_eq, Decidable.not_not, bne_eq_false_iff_eq, List.length_map] at hg9)
                apply al_normT
                · (try dsimp only [putT, List.set_cons_zero, List.set_cons_succ]); try exact rfl
                exact absurd (by rw [h1]; rfl) hg9
            · skip
              (try simp only [decide_eq_true_eq, decide_eq_false_iff_not, beq_iff_eq, beq_eq_false_iff_ne, Bool.not_eq_true', Bool.not_eq_false', bne_iff_ne, ne_eq, Decidable.not_not, bne_eq_false_iff_eq, List.length_map] at hg8)
              apply al_normT
              · (try dsimp only [putT, List.set_cons_zero, List.set_cons_succ]); try exact rfl
              exact absurd hg8 (by simp [h3])
          · skip
            (try simp only [decide_eq_true_eq, decide_eq_false_iff_not, beq_iff_eq, beq_eq_false_iff_ne, Bool.not_eq_true', Bool.not_eq_false', bne_iff_ne, ne_eq, Decidable.not_not, bne_eq_false_iff_eq, List.length_map] at hg7)
            apply al_normT
            · (try dsimp only [putT, List.set_cons_zero, List.set_cons_succ]); try exact rfl
            apply al_wantedN
            · rfl
            · rfl
            · rfl
            · exact op_move_tmp (by rfl)
            · (try dsimp only [putT, List.set_cons_zero, List.set_cons_succ]); try exact rfl
            apply al_wantedN
            · rfl
            · rfl
            · rfl
            · exact op_eqI (by rfl) (by rfl)
            · (try dsimp only [putT, List.set_cons_zero, List.set_cons_succ]); try exact rfl
            apply al_stepN
            · exact op_pick_ff (by rfl) (val_tmp (by rfl))
            · rfl
            · (try dsimp only [putT, List.set_cons_zero, List.set_cons_succ]); try exact rfl
            apply al_stepN
            · exact op_move_tmp (by rfl)
            · rfl
            · (try dsimp only [putT, List.set_cons_zero, List.set_cons_succ]); try exact rfl
            refine al_split 29 rfl (fun hg10 => ?_) (fun hg10 => ?_)
            · skip
              (try simp only [decide_eq_true_eq, decide_eq_false_iff_not, beq_iff_eq, beq_eq_false_iff_ne, Bool.not_eq_true', Bool.not_eq_false', bne_iff_ne, ne_eq, Decidable.not_not, bne_eq_false_iff_eq, List.length_map] at hg10)
              apply al_normT
              · (try dsimp only [putT, List.set_cons_zero, List.set_cons_succ]); try exact rfl
              apply al_wantedN
              · rfl
              · rfl
              · rfl
              · exact op_move_tmp (by rfl)
              · (try dsimp only [putT, List.set_cons_zero, List.set_cons_succ]); try exact rfl
              apply al_wantedN
              · rfl
              · rfl
              · rfl
              · exact op_eqI (by rfl) (by rfl)
              · (try dsimp only [putT, List.set_cons_zero, List.set_cons_succ]); try exact rfl
              apply al_wantedN
              · rfl
              · rfl
              · rfl
              · exact op_move_tmp (by rfl)
              · (try dsimp only [putT, List.set_cons_zero, List.set_cons_succ]); try exact rfl
              apply al_wantedN
              · rfl
              · rfl
              · rfl
              · exact op_lenS Try.underlying9 (by rfl)
              · (try dsimp only [putT, List.set_cons_zero, List.set_cons_succ]); try exact rfl
              apply al_wantedN
              · rfl
              · rfl
              · rfl
              · exact op_gtI (by rfl) (by rfl)
              · (try dsimp only [putT, List.set_cons_zero, List.set_cons_succ]); try exact rfl
              apply al_wantedN
              · rfl
              · rfl
              · rfl
              · exact op_eqB Try.underlying4 (by rfl) (by rfl)
              · (try dsimp only [putT, List.set_cons_zero, List.set_cons_succ]); try exact rfl
              apply al_stepN
              · exact op_pick_tt (by rfl) (val_tmp (by rfl))
              · rfl
              · (try dsimp only [putT, List.set_cons_zero, List.set_cons_succ]); try exact rfl
              apply al_stepN
              · exact op_move_tmp (by rfl)
              · rfl
              · (try dsimp only [putT, List.set_cons_zero, List.set_cons_succ]); try exact rfl
              refine al_split 37 rfl (fun hg11 => ?_) (fun hg11 => ?_)
              · skip
                (try simp only [decide_eq_true_eq, decide_eq_false_iff_not, beq_iff_eq, beq_eq_false_iff_ne, Bool.not_eq_true', Bool.not_eq_false', bne_iff_ne, ne_eq, Decidable.not_not, bne_eq_false_iff_eq, List.length_map] at hg11)
                apply al_normT
                · (try dsimp only [putT, List.set_cons_zero, List.set_cons_succ]); try exact rfl
                apply al_wantedN
                · rfl
                · rfl
                · rfl
                · first | exact op_fieldAddr_ptr Try.underlying37 rfl Sz33 (by rfl) (by rfl) | exact op_fieldAddr_elt Try.underlying37 rfl Sz33 (by rfl) (by rfl) (by rfl)
                · (try dsimp only [putT, List.set_cons_zero, List.set_cons_succ]); try exact rfl
                apply al_wantedN
                · rfl
                · rfl
                · rfl
                · exact op_load_ptr Try.underlying33 (by rfl) (by rfl) (setB_at push_at) (vC_at0 _)
                · (try dsimp only [putT, List.set_cons_zero, List.set_cons_succ]); try exact rfl
                apply al_wantedN
                · rfl
                · rfl
                · rfl
                · exact op_eqI (by rfl) (by rfl)
                · (try dsimp only [putT, List.set_cons_zero, List.set_cons_succ]); try exact rfl
                apply al_stepN
                · exact op_pick_tt (by rfl) (val_tmp (by rfl))
                · rfl
                · (try dsimp only [putT, List.set_cons_zero, List.set_cons_succ]); try exact rfl
                apply al_stepN
                · exact op_move_tmp (by rfl)
                · rfl
                · (try dsimp only [putT, List.set_cons_zero, List.set_cons_succ]); try exact rfl
                refine al_split 42 rfl (fun hg12 => ?_) (fun hg12 => ?_)
                · skip
                  (try simp only [decide_eq_true_eq, decide_eq_false_iff_not, beq_iff_eq, beq_eq_false_iff_ne, Bool.not_eq_true', Bool.not_eq_false', bne_iff_ne, ne_eq, Decidable.not_not, bne_eq_false_iff_eq, List.length_map] at hg12)
                  apply al_normT
                  · (try dsimp only [putT, List.set_cons_zero, List.set_cons_succ]); try exact rfl
                  apply al_wantedN
                  · rfl
                  · rfl
                  · rfl
                  · first | exact op_fieldAddr_ptr Try.underlying37 rfl Sz34 (by rfl) (by rfl) | exact op_fieldAddr_elt Try.underlying37 rfl Sz34 (by rfl) (by rfl) (by rfl)
                  · (try dsimp only [putT, List.set_cons_zero, List.set_cons_succ]); try exact rfl
                  apply al_wantedN
                  · rfl
                  · rfl
                  · rfl
                  · exact op_load_ptr Try.underlying34 (by rfl) (by rfl) (setB_at push_at) (vC_at4 _)
                  · (try dsimp only [putT, List.set_cons_zero, List.set_cons_succ]); try exact rfl
                  apply al_wantedN
                  · rfl
                  · rfl
                  · rfl
                  · exact op_lenL Try.underlying34 (by first | exact LL.d _ _ | exact LL.own _ _ _ | exact LL.nil _ | assumption)
                  · (try dsimp only [putT, List.set_cons_zero, List.set_cons_succ]); try exact rfl
                  apply al_wantedN
                  · rfl
                  · rfl
                  · rfl
                  · exact op_eqI (by rfl) (by rfl)
                  · (try dsimp only [putT, List.set_cons_zero, List.set_cons_succ]); try exact rfl
                  apply al_stepN
                  · exact op_pick_tt (by rfl) (val_tmp (by rfl))
                  · rfl
                  · (try dsimp only [putT, List.set_cons_zero, List.set_cons_succ]); try exact rfl
                  apply al_stepN
                  · exact op_assign_tmp (by rfl)
                  · rfl
                  · (try dsimp only [putT, List.set_cons_zero, List.set_cons_succ]); try exact rfl
                  apply al_end
                  · (try dsimp only [putT, List.set_cons_zero, List.set_cons_succ]); try exact rfl
                  refine then_normal ?_
                  refine aw_ret ?_
                  refine then_ret ?_
                  refine retPost1 rfl rfl ?_
                  first | exact rfl | (rw [h1]; rfl) | (simp [TF]; done)
                · skip
                  (try simp only [decide_eq_true_eq, decide_eq_false_iff_not, beq_iff_eq, beq_eq_false_iff_ne, Bool.not_eq_true', Bool.not_eq_false', bne_iff_ne, ne_eq, Decidable.not_not, bne_eq_false_iff_eq, List.length_map] at hg12)
                  apply al_normT
                  · (try dsimp only [putT, List.set_cons_zero, List.set_cons_succ]); try exact rfl
                  exact absurd (by rw [h1]; rfl) hg12
              · skip
                (try simp only [decide_eq_true_eq, decide_eq_false_iff_not, beq_iff_eq, beq_eq_false_iff_ne, Bool.not_eq_true', Bool.not_eq_false', bne_iff_ne, ne_eq, Decidable.not_not, bne_eq_false_iff_eq, List.length_map] at hg11)
                apply al_normT
                · (try dsimp only [putT, List.set_cons_zero, List.set_cons_succ]); try exact rfl
                exact absurd hg11 (by simp [h3])
            · skip
              (try simp only [decide_eq_true_eq, decide_eq_false_iff_not, beq_iff_eq, beq_eq_false_iff_ne, Bool.not_eq_true', Bool.not_eq_false', bne_iff_ne, ne_eq, Decidable.not_not, bne_eq_false_iff_eq, List.length_map] at hg10)
              apply al_normT
              · (try dsimp only [putT, List.set_cons_zero, List.set_cons_succ]); try exact rfl
              exact absurd hg10 (by rcases h2 with h | h <;> omega)
      · skip
        (try simp only [decide_eq_true_eq, decide_eq_false_iff_not, beq_iff_eq, beq_eq_false_iff_ne, Bool.not_eq_true', Bool.not_eq_false', bne_iff_ne, ne_eq, Decidable.not_not, bne_eq_false_iff_eq, List.length_map] at hc3)
        have he : (decV s).2 = 0 := by simpa using hc3
        obtain ⟨hR, hE, hl⟩ := decV_ok he
        have hO := encO_dec he
        have hsm := small_of 32 _ hR (by rw [hE]; omega)
        refine aw_skip ?_
        refine then_normal ?_
        refine aw_seq ?_
        refine aw_region ?_
        apply al_stepN
        · exact op_load_ptrsD (vC (decV s).1) Try.underlying37 (by rfl) Sz37 (by rfl) (setB_at push_at) (by show 0 + 6 ≤ ((vC (decV s).1).map AV.d).length; rw [List.length_map, vC_len]; exact Nat.le_refl _) (by show (((vC (decV s).1).map AV.d).drop 0).take 6 = _; rw [List.drop_zero, List.take_of_length_le (by rw [List.length_map, vC_len]; exact Nat.le_refl _)]) (vC_one (decV s).1)
        · rfl
        · (try dsimp only [putT, List.set_cons_zero, List.set_cons_succ]); try exact rfl
        apply al_stepN
        · exact op_callF Try.func43 (by rfl) (by rfl) (.tmp (by rfl) .nil) (venc_at hO hsm (decV_wf s) (by rw [hE]; omega))
        · rfl
        · (try dsimp only [putT, List.set_cons_zero, List.set_cons_succ]); try exact rfl
        apply al_stepN
        · exact op_move_tmp (by rfl)
        · rfl
        · (try dsimp only [putT, List.set_cons_zero, List.set_cons_succ]); try exact rfl
        apply al_stepN
        · exact op_extract (by rfl) (by rfl)
        · rfl
        · (try dsimp only [putT, List.set_cons_zero, List.set_cons_succ]); try exact rfl
        apply al_stepN
        · exact op_extract (by rfl) (by rfl)
        · rfl
        · (try dsimp only [putT, List.set_cons_zero, List.set_cons_succ]); try exact rfl
        apply al_stepN
        · exact op_assign_tmp (by rfl)
        · rfl
        · (try dsimp only [putT, List.set_cons_zero, List.set_cons_succ]); try exact rfl
        apply al_stepN
        · exact op_assign_tmp (by rfl)
        · rfl
        · (try dsimp only [putT, List.set_cons_zero, List.set_cons_succ]); try exact rfl
        apply al_end
        · (try dsimp only [putT, List.set_cons_zero, List.set_cons_succ]); try exact rfl
        refine then_normal ?_
        refine aw_seq ?_
        refine aw_region ?_
        apply al_stepN
        · exact op_load_ptrsD (vC (decV s).1) Try.underlying37 (by rfl) Sz37 (by rfl) (setB_at push_at) (by show 0 + 6 ≤ ((vC (decV s).1).map AV.d).length; rw [List.length_map, vC_len]; exact Nat.le_refl _) (by show (((vC (decV s).1).map AV.d).drop 0).take 6 = _; rw [List.drop_zero, List.take_of_length_le (by rw [List.length_map, vC_len]; exact Nat.le_refl _)]) (vC_one (decV s).1)
        · rfl
        · (try dsimp only [putT, List.set_cons_zero, List.set_cons_succ]); try exact rfl
        apply al_stepN
        · exact op_callF Try.func41 (by rfl) (by rfl) (.tmp (by rfl) .nil) (right_at hR hsm)
        · rfl
        · (try dsimp only [putT, List.set_cons_zero, List.set_cons_succ]); try exact rfl
        apply al_stepN
        · exact op_move_tmp (by rfl)
        · rfl
        · (try dsimp only [putT, List.set_cons_zero, List.set_cons_succ]); try exact rfl
        apply al_wantedN
        · rfl
        · rfl
        · rfl
        · exact op_move_tmp (by rfl)
        · (try dsimp only [putT, List.set_cons_zero, List.set_cons_succ]); try exact rfl
        apply al_wantedN
        · rfl
        · rfl
        · rfl
        · exact op_eqI (by rfl) (by rfl)
        · (try dsimp only [putT, List.set_cons_zero, List.set_cons_succ]); try exact rfl
        apply al_stepN
        · exact op_pick_tt (by rfl) (val_tmp (by rfl))
        · rfl
        · (try dsimp only [putT, List.set_cons_zero, List.set_cons_succ]); try exact rfl
        apply al_stepN
        · exact op_move_tmp (by rfl)
        · rfl
        · (try dsimp only [putT, List.set_cons_zero, List.set_cons_succ]); try exact rfl
        apply al_wantedN
        · rfl
        · rfl
        · rfl
        · exact op_move_tmp (by rfl)
        · (try dsimp only [putT, List.set_cons_zero, List.set_cons_succ]); try exact rfl
        apply al_wantedN
        · rfl
        · rfl
        · rfl
        · exact op_move_tmp (by rfl)
        · (try dsimp only [putT, List.set_cons_zero, List.set_cons_succ]); try exact rfl
        apply al_wantedN
        · rfl
        · rfl
        · rfl
        · exact op_eqS (by rfl) (by rfl)
        · (try dsimp only [putT, List.set_cons_zero, List.set_cons_succ]); try exact rfl
        apply al_stepN
        · exact op_pick_tt (by rfl) (val_tmp (by rfl))
        · rfl
        · (try dsimp only [putT, List.set_cons_zero, List.set_cons_succ]); try exact rfl
        apply al_stepN
        · exact op_assign_tmp (by rfl)
        · rfl
        · (try dsimp only [putT, List.set_cons_zero, List.set_cons_succ]); try exact rfl
        apply al_end
        · (try dsimp only [putT, List.set_cons_zero, List.set_cons_succ]); try exact rfl
        refine then_normal ?_
        refine aw_ret ?_
        refine retPost1 rfl rfl ?_
        first | exact rfl | (rw [h1]; rfl) | (simp [TF]; done)
end Go.Proofs.Ytadkehaagkjbhaa
