/- What the functions of the laws of layer 2 come to: the same. -/
import Derived.Test.YtadkehaagkjbhaaValU
import Derived.Test.YtadkehaagkjbhaaValFew
import Derived.KernelRfl
namespace Go.Proofs.Ytadkehaagkjbhaa
open Go.AV Go.AV.Ord Go.AV.Oct Go.AV.Val
set_option linter.unusedVariables false
set_option linter.unusedSimpArgs false
/- A value is the same as itself. -/
set_option maxRecDepth 100000 in
theorem same_step (Hs : HS) (k : Int) (y : Bool) (i : Int) (tx : List UInt8) (ls : List V) (fs : List F) (hls : ls.length ≤ 1000000) (hfs : fs.length ≤ 1000000) (ihL : ∀ x ∈ ls, ∀ Hs : HS, ACalls Try.prog 45 [.d (.agg (vC x)), .d (.agg (vC x))] Hs (Ret (.d (TF true)) Hs)) (ihF : ∀ x ∈ fs, ∀ Hs : HS, ACalls Try.prog 45 [.d (.agg (vC x.val)), .d (.agg (vC x.val))] Hs (Ret (.d (TF true)) Hs)) : ACalls Try.prog 45 [.d (.agg (v6D k y i tx ls fs)), .d (.agg (v6D k y i tx ls fs))] Hs (Ret (.d (TF true)) Hs) := by
  refine acalls_of_aw Try.func45 rfl ?_
  refine aw_start (T' := ((.d (.agg (v6D k y i tx ls fs))) :: (.d (.agg (v6D k y i tx ls fs))) :: .un :: .un :: .un :: .un :: .un :: .un :: .un :: .un :: .un :: .un :: .un :: .un :: .un :: .un :: .un :: .un :: .un :: .un :: .un :: .un :: .un :: .un :: .un :: .un :: .un :: .un :: .un :: .un :: .un :: .un :: .un :: .un :: .un :: .un :: .un :: .un :: .un :: .un :: .un :: .un :: .un :: .un :: .un :: .un :: .un :: .un :: .un :: .un :: .un :: .un :: .un :: .un :: .un :: .un :: .un :: .un :: .un :: .un :: .un :: .un :: .un :: .un :: .un :: .un :: .un :: .un :: .un :: .un :: .un :: .un :: .un :: .un :: .un :: .un :: .un :: .un :: .un :: .un :: .un :: .un :: .un :: .un :: .un :: .un :: .un :: .un :: .un :: .un :: .un :: .un :: .un :: .un :: .un :: .un :: .un :: .un :: .un :: .un :: .un :: .un :: .un :: .un :: .un :: .un :: [])) rfl ?_
  refine aw_seq ?_
  refine aw_region ?_
  apply al_stepN
  · exact op_box_elt (cs := v6D k y i tx ls fs) (by rfl) (by rfl)
  · rfl
  · (try dsimp only [putT, List.set_cons_zero, List.set_cons_succ]); try exact rfl
  apply al_stepN
  · exact op_box_elt (cs := v6D k y i tx ls fs) (by rfl) (by rfl)
  · rfl
  · (try dsimp only [putT, List.set_cons_zero, List.set_cons_succ]); try exact rfl
  apply al_stepN
  · exact op_assign_const (by rfl)
  · rfl
  · (try dsimp only [putT, List.set_cons_zero, List.set_cons_succ]); try exact rfl
  apply al_end
  · (try dsimp only [putT, List.set_cons_zero, List.set_cons_succ]); try exact rfl
  refine then_normal ?_
  refine aw_seq ?_
  refine aw_seq ?_
  refine aw_region ?_
  apply al_stepN
  · first | exact op_fieldAddr_ptr Try.underlying37 rfl Sz33 (by rfl) (by rfl) | exact op_fieldAddr_elt Try.underlying37 rfl Sz33 (by rfl) (by rfl) (by rfl)
  · rfl
  · (try dsimp only [putT, List.set_cons_zero, List.set_cons_succ]); try exact rfl
  apply al_stepN
  · first | exact op_load_elt Try.underlying33 (by rfl) (by rfl) (by rfl) | exact op_load_ptr Try.underlying33 (by rfl) (by rfl) (by rfl) (by rfl)
  · rfl
  · (try dsimp only [putT, List.set_cons_zero, List.set_cons_succ]); try exact rfl
  apply al_stepN
  · first | exact op_fieldAddr_ptr Try.underlying37 rfl Sz33 (by rfl) (by rfl) | exact op_fieldAddr_elt Try.underlying37 rfl Sz33 (by rfl) (by rfl) (by rfl)
  · rfl
  · (try dsimp only [putT, List.set_cons_zero, List.set_cons_succ]); try exact rfl
  apply al_stepN
  · first | exact op_load_elt Try.underlying33 (by rfl) (by rfl) (by rfl) | exact op_load_ptr Try.underlying33 (by rfl) (by rfl) (by rfl) (by rfl)
  · rfl
  · (try dsimp only [putT, List.set_cons_zero, List.set_cons_succ]); try exact rfl
  apply al_stepN
  · exact op_neI (by rfl) (by rfl)
  · rfl
  · (try dsimp only [putT, List.set_cons_zero, List.set_cons_succ]); try exact rfl
  apply al_stepN
  · exact op_move_tmp (by rfl)
  · rfl
  · (try dsimp only [putT, List.set_cons_zero, List.set_cons_succ]); try exact rfl
  refine al_split 12 rfl (fun hg1 => ?_) (fun hg1 => ?_)
  · skip
    (try simp only [decide_eq_true_eq, decide_eq_false_iff_not, beq_iff_eq, beq_eq_false_iff_ne, Bool.not_eq_true', Bool.not_eq_false', bne_iff_ne, ne_eq, Decidable.not_not, bne_eq_false_iff_eq, List.length_map] at hg1)
    apply al_normT
    · (try dsimp only [putT, List.set_cons_zero, List.set_cons_succ]); try exact rfl
    all_goals (first | exact absurd rfl hg1 | simp at hg1)
  · skip
    (try simp only [decide_eq_true_eq, decide_eq_false_iff_not, beq_iff_eq, beq_eq_false_iff_ne, Bool.not_eq_true', Bool.not_eq_false', bne_iff_ne, ne_eq, Decidable.not_not, bne_eq_false_iff_eq, List.length_map] at hg1)
    apply al_normT
    · (try dsimp only [putT, List.set_cons_zero, List.set_cons_succ]); try exact rfl
    apply al_wantedN
    · rfl
    · rfl
    · rfl
    · first | exact op_fieldAddr_ptr Try.underlying37 rfl Sz4 (by rfl) (by rfl) | exact op_fieldAddr_elt Try.underlying37 rfl Sz4 (by rfl) (by rfl) (by rfl)
    · (try dsimp only [putT, List.set_cons_zero, List.set_cons_succ]); try exact rfl
    apply al_wantedN
    · rfl
    · rfl
    · rfl
    · first | exact op_load_elt Try.underlying4 (by rfl) (by rfl) (by rfl) | exact op_load_ptr Try.underlying4 (by rfl) (by rfl) (by rfl) (by rfl)
    · (try dsimp only [putT, List.set_cons_zero, List.set_cons_succ]); try exact rfl
    apply al_wantedN
    · rfl
    · rfl
    · rfl
    · first | exact op_fieldAddr_ptr Try.underlying37 rfl Sz4 (by rfl) (by rfl) | exact op_fieldAddr_elt Try.underlying37 rfl Sz4 (by rfl) (by rfl) (by rfl)
    · (try dsimp only [putT, List.set_cons_zero, List.set_cons_succ]); try exact rfl
    apply al_wantedN
    · rfl
    · rfl
    · rfl
    · first | exact op_load_elt Try.underlying4 (by rfl) (by rfl) (by rfl) | exact op_load_ptr Try.underlying4 (by rfl) (by rfl) (by rfl) (by rfl)
    · (try dsimp only [putT, List.set_cons_zero, List.set_cons_succ]); try exact rfl
    apply al_wantedN
    · rfl
    · rfl
    · rfl
    · exact op_neB Try.underlying4 (by rfl) (by rfl)
    · (try dsimp only [putT, List.set_cons_zero, List.set_cons_succ]); try exact rfl
    apply al_stepN
    · exact op_pick_ff (by rfl) (val_tmp (by rfl))
    · rfl
    · (try dsimp only [putT, List.set_cons_zero, List.set_cons_succ]); try exact rfl
    apply al_stepN
    · exact op_move_tmp (by rfl)
    · rfl
    · (try dsimp only [putT, List.set_cons_zero, List.set_cons_succ]); try exact rfl
    refine al_split 19 rfl (fun hg2 => ?_) (fun hg2 => ?_)
    · skip
      (try simp only [decide_eq_true_eq, decide_eq_false_iff_not, beq_iff_eq, beq_eq_false_iff_ne, Bool.not_eq_true', Bool.not_eq_false', bne_iff_ne, ne_eq, Decidable.not_not, bne_eq_false_iff_eq, List.length_map] at hg2)
      apply al_normT
      · (try dsimp only [putT, List.set_cons_zero, List.set_cons_succ]); try exact rfl
      all_goals (first | exact absurd rfl hg2 | simp at hg2)
    · skip
      (try simp only [decide_eq_true_eq, decide_eq_false_iff_not, beq_iff_eq, beq_eq_false_iff_ne, Bool.not_eq_true', Bool.not_eq_false', bne_iff_ne, ne_eq, Decidable.not_not, bne_eq_false_iff_eq, List.length_map] at hg2)
      apply al_normT
      · (try dsimp only [putT, List.set_cons_zero, List.set_cons_succ]); try exact rfl
      apply al_wantedN
      · rfl
      · rfl
      · rfl
      · first | exact op_fieldAddr_ptr Try.underlying37 rfl Sz2 (by rfl) (by rfl) | exact op_fieldAddr_elt Try.underlying37 rfl Sz2 (by rfl) (by rfl) (by rfl)
      · (try dsimp only [putT, List.set_cons_zero, List.set_cons_succ]); try exact rfl
      apply al_wantedN
      · rfl
      · rfl
      · rfl
      · first | exact op_load_elt Try.underlying2 (by rfl) (by rfl) (by rfl) | exact op_load_ptr Try.underlying2 (by rfl) (by rfl) (by rfl) (by rfl)
      · (try dsimp only [putT, List.set_cons_zero, List.set_cons_succ]); try exact rfl
      apply al_wantedN
      · rfl
      · rfl
      · rfl
      · first | exact op_fieldAddr_ptr Try.underlying37 rfl Sz2 (by rfl) (by rfl) | exact op_fieldAddr_elt Try.underlying37 rfl Sz2 (by rfl) (by rfl) (by rfl)
      · (try dsimp only [putT, List.set_cons_zero, List.set_cons_succ]); try exact rfl
      apply al_wantedN
      · rfl
      · rfl
      · rfl
      · first | exact op_load_elt Try.underlying2 (by rfl) (by rfl) (by rfl) | exact op_load_ptr Try.underlying2 (by rfl) (by rfl) (by rfl) (by rfl)
      · (try dsimp only [putT, List.set_cons_zero, List.set_cons_succ]); try exact rfl
      apply al_wantedN
      · rfl
      · rfl
      · rfl
      · exact op_neI (by rfl) (by rfl)
      · (try dsimp only [putT, List.set_cons_zero, List.set_cons_succ]); try exact rfl
      apply al_stepN
      · exact op_pick_ff (by rfl) (val_tmp (by rfl))
      · rfl
      · (try dsimp only [putT, List.set_cons_zero, List.set_cons_succ]); try exact rfl
      apply al_stepN
      · exact op_move_tmp (by rfl)
      · rfl
      · (try dsimp only [putT, List.set_cons_zero, List.set_cons_succ]); try exact rfl
      refine al_split 26 rfl (fun hg3 => ?_) (fun hg3 => ?_)
      · skip
        (try simp only [decide_eq_true_eq, decide_eq_false_iff_not, beq_iff_eq, beq_eq_false_iff_ne, Bool.not_eq_true', Bool.not_eq_false', bne_iff_ne, ne_eq, Decidable.not_not, bne_eq_false_iff_eq, List.length_map] at hg3)
        apply al_normT
        · (try dsimp only [putT, List.set_cons_zero, List.set_cons_succ]); try exact rfl
        all_goals (first | exact absurd rfl hg3 | simp at hg3)
      · skip
        (try simp only [decide_eq_true_eq, decide_eq_false_iff_not, beq_iff_eq, beq_eq_false_iff_ne, Bool.not_eq_true', Bool.not_eq_false', bne_iff_ne, ne_eq, Decidable.not_not, bne_eq_false_iff_eq, List.length_map] at hg3)
        apply al_normT
        · (try dsimp only [putT, List.set_cons_zero, List.set_cons_succ]); try exact rfl
        apply al_wantedN
        · rfl
        · rfl
        · rfl
        · first | exact op_fieldAddr_ptr Try.underlying37 rfl Sz9 (by rfl) (by rfl) | exact op_fieldAddr_elt Try.underlying37 rfl Sz9 (by rfl) (by rfl) (by rfl)
        · (try dsimp only [putT, List.set_cons_zero, List.set_cons_succ]); try exact rfl
        apply al_wantedN
        · rfl
        · rfl
        · rfl
        · first | exact op_load_elt Try.underlying9 (by rfl) (by rfl) (by rfl) | exact op_load_ptr Try.underlying9 (by rfl) (by rfl) (by rfl) (by rfl)
        · (try dsimp only [putT, List.set_cons_zero, List.set_cons_succ]); try exact rfl
        apply al_wantedN
        · rfl
        · rfl
        · rfl
        · first | exact op_fieldAddr_ptr Try.underlying37 rfl Sz9 (by rfl) (by rfl) | exact op_fieldAddr_elt Try.underlying37 rfl Sz9 (by rfl) (by rfl) (by rfl)
        · (try dsimp only [putT, List.set_cons_zero, List.set_cons_succ]); try exact rfl
        apply al_wantedN
        · rfl
        · rfl
        · rfl
        · first | exact op_load_elt Try.underlying9 (by rfl) (by rfl) (by rfl) | exact op_load_ptr Try.underlying9 (by rfl) (by rfl) (by rfl) (by rfl)
        · (try dsimp only [putT, List.set_cons_zero, List.set_cons_succ]); try exact rfl
        apply al_wantedN
        · rfl
        · rfl
        · rfl
        · exact op_neS (by rfl) (by rfl)
        · (try dsimp only [putT, List.set_cons_zero, List.set_cons_succ]); try exact rfl
        apply al_stepN
        · exact op_pick_ff (by rfl) (val_tmp (by rfl))
        · rfl
        · (try dsimp only [putT, List.set_cons_zero, List.set_cons_succ]); try exact rfl
        apply al_stepN
        · exact op_move_tmp (by rfl)
        · rfl
        · (try dsimp only [putT, List.set_cons_zero, List.set_cons_succ]); try exact rfl
        refine al_split 33 rfl (fun hg4 => ?_) (fun hg4 => ?_)
        · skip
          (try simp only [decide_eq_true_eq, decide_eq_false_iff_not, beq_iff_eq, beq_eq_false_iff_ne, Bool.not_eq_true', Bool.not_eq_false', bne_iff_ne, ne_eq, Decidable.not_not, bne_eq_false_iff_eq, List.length_map] at hg4)
          apply al_normT
          · (try dsimp only [putT, List.set_cons_zero, List.set_cons_succ]); try exact rfl
          all_goals (first | exact absurd rfl hg4 | simp at hg4)
        · skip
          (try simp only [decide_eq_true_eq, decide_eq_false_iff_not, beq_iff_eq, beq_eq_false_iff_ne, Bool.not_eq_true', Bool.not_eq_false', bne_iff_ne, ne_eq, Decidable.not_not, bne_eq_false_iff_eq, List.length_map] at hg4)
          apply al_normT
          · (try dsimp only [putT, List.set_cons_zero, List.set_cons_succ]); try exact rfl
          apply al_wantedN
          · rfl
          · rfl
          · rfl
          · first | exact op_fieldAddr_ptr Try.underlying37 rfl Sz34 (by rfl) (by rfl) | exact op_fieldAddr_elt Try.underlying37 rfl Sz34 (by rfl) (by rfl) (by rfl)
          · (try dsimp only [putT, List.set_cons_zero, List.set_cons_succ]); try exact rfl
          apply al_wantedN
          · rfl
          · rfl
          · rfl
          · first | exact op_load_elt Try.underlying34 (by rfl) (by rfl) (by rfl) | exact op_load_ptr Try.underlying34 (by rfl) (by rfl) (by rfl) (by rfl)
          · (try dsimp only [putT, List.set_cons_zero, List.set_cons_succ]); try exact rfl
          apply al_wantedN
          · rfl
          · rfl
          · rfl
          · exact op_lenL Try.underlying34 (by first | exact LL.d _ _ | exact LL.own _ _ _ | exact LL.nil _ | assumption)
          · (try dsimp only [putT, List.set_cons_zero, List.set_cons_succ]); try exact rfl
          apply al_wantedN
          · rfl
          · rfl
          · rfl
          · first | exact op_fieldAddr_ptr Try.underlying37 rfl Sz34 (by rfl) (by rfl) | exact op_fieldAddr_elt Try.underlying37 rfl Sz34 (by rfl) (by rfl) (by rfl)
          · (try dsimp only [putT, List.set_cons_zero, List.set_cons_succ]); try exact rfl
          apply al_wantedN
          · rfl
          · rfl
          · rfl
          · first | exact op_load_elt Try.underlying34 (by rfl) (by rfl) (by rfl) | exact op_load_ptr Try.underlying34 (by rfl) (by rfl) (by rfl) (by rfl)
          · (try dsimp only [putT, List.set_cons_zero, List.set_cons_succ]); try exact rfl
          apply al_wantedN
          · rfl
          · rfl
          · rfl
          · exact op_lenL Try.underlying34 (by first | exact LL.d _ _ | exact LL.own _ _ _ | exact LL.nil _ | assumption)
          · (try dsimp only [putT, List.set_cons_zero, List.set_cons_succ]); try exact rfl
          apply al_wantedN
          · rfl
          · rfl
          · rfl
          · exact op_neI (by rfl) (by rfl)
          · (try dsimp only [putT, List.set_cons_zero, List.set_cons_succ]); try exact rfl
          apply al_stepN
          · exact op_pick_ff (by rfl) (val_tmp (by rfl))
          · rfl
          · (try dsimp only [putT, List.set_cons_zero, List.set_cons_succ]); try exact rfl
          apply al_stepN
          · exact op_move_tmp (by rfl)
          · rfl
          · (try dsimp only [putT, List.set_cons_zero, List.set_cons_succ]); try exact rfl
          refine al_split 42 rfl (fun hg5 => ?_) (fun hg5 => ?_)
          · skip
            (try simp only [decide_eq_true_eq, decide_eq_false_iff_not, beq_iff_eq, beq_eq_false_iff_ne, Bool.not_eq_true', Bool.not_eq_false', bne_iff_ne, ne_eq, Decidable.not_not, bne_eq_false_iff_eq, List.length_map] at hg5)
            apply al_normT
            · (try dsimp only [putT, List.set_cons_zero, List.set_cons_succ]); try exact rfl
            all_goals (first | exact absurd rfl hg5 | simp at hg5)
          · skip
            (try simp only [decide_eq_true_eq, decide_eq_false_iff_not, beq_iff_eq, beq_eq_false_iff_ne, Bool.not_eq_true', Bool.not_eq_false', bne_iff_ne, ne_eq, Decidable.not_not, bne_eq_false_iff_eq, List.length_map] at hg5)
            apply al_normT
            · (try dsimp only [putT, List.set_cons_zero, List.set_cons_succ]); try exact rfl
            apply al_wantedN
            · rfl
            · rfl
            · rfl
            · first | exact op_fieldAddr_ptr Try.underlying37 rfl Sz35 (by rfl) (by rfl) | exact op_fieldAddr_elt Try.underlying37 rfl Sz35 (by rfl) (by rfl) (by rfl)
            · (try dsimp only [putT, List.set_cons_zero, List.set_cons_succ]); try exact rfl
            apply al_wantedN
            · rfl
            · rfl
            · rfl
            · first | exact op_load_elt Try.underlying35 (by rfl) (by rfl) (by rfl) | exact op_load_ptr Try.underlying35 (by rfl) (by rfl) (by rfl) (by rfl)
            · (try dsimp only [putT, List.set_cons_zero, List.set_cons_succ]); try exact rfl
            apply al_wantedN
            · rfl
            · rfl
            · rfl
            · exact op_lenL Try.underlying35 (by first | exact LL.d _ _ | exact LL.own _ _ _ | exact LL.nil _ | assumption)
            · (try dsimp only [putT, List.set_cons_zero, List.set_cons_succ]); try exact rfl
            apply al_wantedN
            · rfl
            · rfl
            · rfl
            · first | exact op_fieldAddr_ptr Try.underlying37 rfl Sz35 (by rfl) (by rfl) | exact op_fieldAddr_elt Try.underlying37 rfl Sz35 (by rfl) (by rfl) (by rfl)
            · (try dsimp only [putT, List.set_cons_zero, List.set_cons_succ]); try exact rfl
            apply al_wantedN
            · rfl
            · rfl
            · rfl
            · first | exact op_load_elt Try.underlying35 (by rfl) (by rfl) (by rfl) | exact op_load_ptr Try.underlying35 (by rfl) (by rfl) (by rfl) (by rfl)
            · (try dsimp only [putT, List.set_cons_zero, List.set_cons_succ]); try exact rfl
            apply al_wantedN
            · rfl
            · rfl
            · rfl
            · exact op_lenL Try.underlying35 (by first | exact LL.d _ _ | exact LL.own _ _ _ | exact LL.nil _ | assumption)
            · (try dsimp only [putT, List.set_cons_zero, List.set_cons_succ]); try exact rfl
            apply al_wantedN
            · rfl
            · rfl
            · rfl
            · exact op_neI (by rfl) (by rfl)
            · (try dsimp only [putT, List.set_cons_zero, List.set_cons_succ]); try exact rfl
            apply al_stepN
            · exact op_pick_ff (by rfl) (val_tmp (by rfl))
            · rfl
            · (try dsimp only [putT, List.set_cons_zero, List.set_cons_succ]); try exact rfl
            apply al_end
            · (try dsimp only [putT, List.set_cons_zero, List.set_cons_succ]); try exact rfl
            refine then_normal ?_
            refine aw_cond rfl (fun hc6 => ?_) (fun hc6 => ?_)
            · skip
              (try simp only [decide_eq_true_eq, decide_eq_false_iff_not, beq_iff_eq, beq_eq_false_iff_ne, Bool.not_eq_true', Bool.not_eq_false', bne_iff_ne, ne_eq, Decidable.not_not, bne_eq_false_iff_eq, List.length_map] at hc6)
              all_goals (first | exact absurd rfl hc6 | simp at hc6)
            · skip
              (try simp only [decide_eq_true_eq, decide_eq_false_iff_not, beq_iff_eq, beq_eq_false_iff_ne, Bool.not_eq_true', Bool.not_eq_false', bne_iff_ne, ne_eq, Decidable.not_not, bne_eq_false_iff_eq, List.length_map] at hc6)
              refine aw_skip ?_
              refine then_normal ?_
              refine aw_seq ?_
              refine aw_seq ?_
              refine aw_region ?_
              apply al_stepN
              · first | exact op_fieldAddr_ptr Try.underlying37 rfl Sz34 (by rfl) (by rfl) | exact op_fieldAddr_elt Try.underlying37 rfl Sz34 (by rfl) (by rfl) (by rfl)
              · rfl
              · (try dsimp only [putT, List.set_cons_zero, List.set_cons_succ]); try exact rfl
              apply al_stepN
              · first | exact op_load_elt Try.underlying34 (by rfl) (by rfl) (by rfl) | exact op_load_ptr Try.underlying34 (by rfl) (by rfl) (by rfl) (by rfl)
              · rfl
              · (try dsimp only [putT, List.set_cons_zero, List.set_cons_succ]); try exact rfl
              apply al_stepN
              · exact op_lenL Try.underlying34 (by first | exact LL.d _ _ | exact LL.own _ _ _ | exact LL.nil _ | assumption)
              · rfl
              · (try dsimp only [putT, List.set_cons_zero, List.set_cons_succ]); try exact rfl
              apply al_stepN
              · exact op_move_const (by rfl)
              · rfl
              · (try dsimp only [putT, List.set_cons_zero, List.set_cons_succ]); try exact rfl
              apply al_end
              · (try dsimp only [putT, List.set_cons_zero, List.set_cons_succ]); try exact rfl
              refine then_normal ?_
              refine aw_block ?_
              apply aw_loopF (fun n T H => ∃ (j : Nat), T = (.un :: .un :: (.elt (v6D k y i tx ls fs)) :: (.elt (v6D k y i tx ls fs)) :: .un :: .un :: .un :: .un :: .un :: .un :: .un :: .un :: .un :: .un :: .un :: .un :: .un :: .un :: .un :: .un :: .un :: .un :: .un :: .un :: .un :: .un :: .un :: .un :: .un :: .un :: .un :: .un :: .un :: .un :: .un :: .un :: .un :: .un :: .un :: .un :: .un :: .un :: .un :: .un :: .un :: .un :: .un :: .un :: .un :: .un :: .un :: .un :: .un :: (.d (I (ls.map vD).length)) :: (.d (I j)) :: .un :: .un :: .un :: .un :: .un :: .un :: .un :: .un :: .un :: .un :: .un :: .un :: .un :: .un :: .un :: .un :: .un :: .un :: .un :: .un :: .un :: .un :: .un :: .un :: .un :: .un :: .un :: .un :: .un :: .un :: .un :: .un :: .un :: .un :: .un :: .un :: .un :: .un :: .un :: .un :: .un :: .un :: .un :: .un :: .un :: .un :: .un :: .un :: .un :: .un :: .un :: []) ∧ j ≤ ls.length ∧ n = ls.length - j ∧ Hs = H) (ls.length) (false :: false :: true :: true :: false :: false :: false :: false :: false :: false :: false :: false :: false :: false :: false :: false :: false :: false :: false :: false :: false :: false :: false :: false :: false :: false :: false :: false :: false :: false :: false :: false :: false :: false :: false :: false :: false :: false :: false :: false :: false :: false :: false :: false :: false :: false :: false :: false :: false :: false :: false :: false :: false :: true :: true :: false :: false :: false :: false :: false :: false :: false :: false :: false :: false :: false :: false :: false :: false :: false :: false :: false :: false :: false :: false :: false :: false :: false :: false :: false :: false :: false :: false :: false :: false :: false :: false :: false :: false :: false :: false :: false :: false :: false :: false :: false :: false :: false :: false :: false :: false :: false :: false :: false :: false :: false :: [])
              · (try dsimp only [maskT]); try exact rfl
              · rfl
              · exact ⟨0, rfl, by omega, rfl, rfl⟩
              rintro n T H ⟨j, rfl, hj, rfl, rfl⟩
              refine aw_seq ?_
              refine aw_region ?_
              apply al_stepN
              · exact op_ltI (by rfl) (by rfl)
              · rfl
              · (try dsimp only [putT, List.set_cons_zero, List.set_cons_succ]); try exact rfl
              apply al_end
              · (try dsimp only [putT, List.set_cons_zero, List.set_cons_succ]); try exact rfl
              refine then_normal ?_
              refine aw_seq ?_
              refine aw_cond rfl (fun hc7 => ?_) (fun hc7 => ?_)
              · skip
                (try simp only [decide_eq_true_eq, decide_eq_false_iff_not, beq_iff_eq, beq_eq_false_iff_ne, Bool.not_eq_true', Bool.not_eq_false', bne_iff_ne, ne_eq, Decidable.not_not, bne_eq_false_iff_eq, List.length_map] at hc7)
                (try simp only [List.length_map] at hc7)
                have hlt : j < ls.length := by omega
                obtain ⟨x, hx1⟩ : ∃ x, ls[j]? = some x := ⟨_, List.getElem?_eq_getElem hlt⟩
                refine aw_skip ?_
                refine then_normal ?_
                refine aw_seq ?_
                refine aw_block ?_
                refine aw_seq ?_
                refine aw_region ?_
                apply al_stepN
                · exact op_move_tmp (by rfl)
                · rfl
                · (try dsimp only [putT, List.set_cons_zero, List.set_cons_succ]); try exact rfl
                apply al_stepN
                · exact op_assign_tmp (by rfl)
                · rfl
                · (try dsimp only [putT, List.set_cons_zero, List.set_cons_succ]); try exact rfl
                apply al_end
                · (try dsimp only [putT, List.set_cons_zero, List.set_cons_succ]); try exact rfl
                refine then_normal ?_
                refine aw_seq ?_
                refine aw_draw [0, 1, 0, 0, 1, 0, 1, 0, 0, 1, 0, 0] mixed (by kernel_rfl) ?_
                apply drun0
                · intro H; first | exact op_fieldAddr_ptr Try.underlying37 rfl Sz34 (by rfl) (by rfl) | exact op_fieldAddr_elt Try.underlying37 rfl Sz34 (by rfl) (by rfl) (by rfl)
                · rfl
                apply drun_normT
                · (try dsimp only [putT, List.set_cons_zero, List.set_cons_succ]); try exact rfl
                apply drun1
                · first | exact op_load_elt Try.underlying34 (by rfl) (by rfl) (by rfl) | exact op_load_ptr Try.underlying34 (by rfl) (by rfl) (by rfl) (by rfl)
                · rfl
                apply drun_normT
                · (try dsimp only [putT, List.set_cons_zero, List.set_cons_succ]); try exact rfl
                apply drun0
                · intro H; exact op_move_tmp (by rfl)
                · rfl
                apply drun_normT
                · (try dsimp only [putT, List.set_cons_zero, List.set_cons_succ]); try exact rfl
                apply drun0
                · intro H; exact op_indexAddr (z := vD x) (cs := [I x.kind, TF x.yes, .v (.int .i64 x.num), S x.text, .lst 6 (x.list.map vD), .lst 7 (x.fields.map fD)]) Try.underlying34 Sz37 (LL.d _ _) (by rfl) (by omega) (by rw [List.getElem?_map, show ((j : Nat) : Int).toNat = j from rfl, hx1]; rfl) (vD_cells x)
                · rfl
                apply drun_normT
                · (try dsimp only [putT, List.set_cons_zero, List.set_cons_succ]); try exact rfl
                apply drun1
                · exact op_load_elts (ds := vC x) Try.underlying37 (by rfl) Sz37 (by rfl) (Nat.le_of_ble_eq_true rfl) (by rw [vC_eq]; rfl)
                · rfl
                apply drun_normT
                · (try dsimp only [putT, List.set_cons_zero, List.set_cons_succ]); try exact rfl
                apply drun0
                · intro H; first | exact op_fieldAddr_ptr Try.underlying37 rfl Sz34 (by rfl) (by rfl) | exact op_fieldAddr_elt Try.underlying37 rfl Sz34 (by rfl) (by rfl) (by rfl)
                · rfl
                apply drun_normT
                · (try dsimp only [putT, List.set_cons_zero, List.set_cons_succ]); try exact rfl
                apply drun1
                · first | exact op_load_elt Try.underlying34 (by rfl) (by rfl) (by rfl) | exact op_load_ptr Try.underlying34 (by rfl) (by rfl) (by rfl) (by rfl)
                · rfl
                apply drun_normT
                · (try dsimp only [putT, List.set_cons_zero, List.set_cons_succ]); try exact rfl
                apply drun0
                · intro H; exact op_move_tmp (by rfl)
                · rfl
                apply drun_normT
                · (try dsimp only [putT, List.set_cons_zero, List.set_cons_succ]); try exact rfl
                apply drun0
                · intro H; exact op_indexAddr (z := vD x) (cs := [I x.kind, TF x.yes, .v (.int .i64 x.num), S x.text, .lst 6 (x.list.map vD), .lst 7 (x.fields.map fD)]) Try.underlying34 Sz37 (LL.d _ _) (by rfl) (by omega) (by rw [List.getElem?_map, show ((j : Nat) : Int).toNat = j from rfl, hx1]; rfl) (vD_cells x)
                · rfl
                apply drun_normT
                · (try dsimp only [putT, List.set_cons_zero, List.set_cons_succ]); try exact rfl
                apply drun1
                · exact op_load_elts (ds := vC x) Try.underlying37 (by rfl) Sz37 (by rfl) (Nat.le_of_ble_eq_true rfl) (by rw [vC_eq]; rfl)
                · rfl
                apply drun_normT
                · (try dsimp only [putT, List.set_cons_zero, List.set_cons_succ]); try exact rfl
                apply drun0
                · intro H; exact op_callF Try.func45 (by rfl) (by rfl) (.tmp (by rfl) (.tmp (by rfl) .nil)) (ihL x (List.mem_of_getElem? hx1) _)
                · rfl
                apply drun_normT
                · (try dsimp only [putT, List.set_cons_zero, List.set_cons_succ]); try exact rfl
                apply drun0
                · intro H; exact op_not (by rfl)
                · rfl
                apply drun_normT
                · (try dsimp only [putT, List.set_cons_zero, List.set_cons_succ]); try exact rfl
                apply drun_end
                · (try dsimp only [putT, List.set_cons_zero, List.set_cons_succ]); try exact rfl
                refine then_normal ?_
                refine aw_cond rfl (fun h => by cases h) (fun _ => ?_)
                refine aw_skip ?_
                refine inBlock_normal (then_normal ?_)
                refine aw_region ?_
                apply al_stepN
                · first | exact op_add (by rfl) (by rfl) (wrap_i64 ⟨by omega, by omega⟩) | exact op_add (by rfl) (by rfl) (by rfl)
                · rfl
                · (try dsimp only [putT, List.set_cons_zero, List.set_cons_succ]); try exact rfl
                apply al_stepN
                · exact op_move_tmp (by rfl)
                · rfl
                · (try dsimp only [putT, List.set_cons_zero, List.set_cons_succ]); try exact rfl
                apply al_end
                · (try dsimp only [putT, List.set_cons_zero, List.set_cons_succ]); try exact rfl
                apply again_to (ls.length - (j + 1)) (false :: false :: true :: true :: false :: false :: false :: false :: false :: false :: false :: false :: false :: false :: false :: false :: false :: false :: false :: false :: false :: false :: false :: false :: false :: false :: false :: false :: false :: false :: false :: false :: false :: false :: false :: false :: false :: false :: false :: false :: false :: false :: false :: false :: false :: false :: false :: false :: false :: false :: false :: false :: false :: true :: true :: false :: false :: false :: false :: false :: false :: false :: false :: false :: false :: false :: false :: false :: false :: false :: false :: false :: false :: false :: false :: false :: false :: false :: false :: false :: false :: false :: false :: false :: false :: false :: false :: false :: false :: false :: false :: false :: false :: false :: false :: false :: false :: false :: false :: false :: false :: false :: false :: false :: false :: false :: [])
                · (try dsimp only [maskT]); try exact rfl
                · rfl
                · omega
                exact ⟨j + 1, rfl, by omega, rfl, rfl⟩
              · skip
                (try simp only [decide_eq_true_eq, decide_eq_false_iff_not, beq_iff_eq, beq_eq_false_iff_ne, Bool.not_eq_true', Bool.not_eq_false', bne_iff_ne, ne_eq, Decidable.not_not, bne_eq_false_iff_eq, List.length_map] at hc7)
                (try simp only [List.length_map] at hc7)
                have hje : j = ls.length := by omega
                subst hje
                refine aw_exit ?_
                refine then_exit (again_exit (inBlock_here (then_normal ?_)))
                refine aw_seq ?_
                refine aw_seq ?_
                refine aw_region ?_
                apply al_stepN
                · first | exact op_fieldAddr_ptr Try.underlying37 rfl Sz35 (by rfl) (by rfl) | exact op_fieldAddr_elt Try.underlying37 rfl Sz35 (by rfl) (by rfl) (by rfl)
                · rfl
                · (try dsimp only [putT, List.set_cons_zero, List.set_cons_succ]); try exact rfl
                apply al_stepN
                · first | exact op_load_elt Try.underlying35 (by rfl) (by rfl) (by rfl) | exact op_load_ptr Try.underlying35 (by rfl) (by rfl) (by rfl) (by rfl)
                · rfl
                · (try dsimp only [putT, List.set_cons_zero, List.set_cons_succ]); try exact rfl
                apply al_stepN
                · exact op_lenL Try.underlying35 (by first | exact LL.d _ _ | exact LL.own _ _ _ | exact LL.nil _ | assumption)
                · rfl
                · (try dsimp only [putT, List.set_cons_zero, List.set_cons_succ]); try exact rfl
                apply al_stepN
                · exact op_move_const (by rfl)
                · rfl
                · (try dsimp only [putT, List.set_cons_zero, List.set_cons_succ]); try exact rfl
                apply al_end
                · (try dsimp only [putT, List.set_cons_zero, List.set_cons_succ]); try exact rfl
                refine then_normal ?_
                refine aw_block ?_
                apply aw_loopF (fun n T H => ∃ (j : Nat), T = (.un :: .un :: (.elt (v6D k y i tx ls fs)) :: (.elt (v6D k y i tx ls fs)) :: .un :: .un :: .un :: .un :: .un :: .un :: .un :: .un :: .un :: .un :: .un :: .un :: .un :: .un :: .un :: .un :: .un :: .un :: .un :: .un :: .un :: .un :: .un :: .un :: .un :: .un :: .un :: .un :: .un :: .un :: .un :: .un :: .un :: .un :: .un :: .un :: .un :: .un :: .un :: .un :: .un :: .un :: .un :: .un :: .un :: .un :: .un :: .un :: .un :: .un :: .un :: .un :: .un :: .un :: .un :: .un :: .un :: .un :: .un :: .un :: .un :: .un :: .un :: .un :: .un :: .un :: .un :: .un :: (.d (I (fs.map fD).length)) :: (.d (I j)) :: .un :: .un :: .un :: .un :: .un :: .un :: .un :: .un :: .un :: .un :: .un :: .un :: .un :: .un :: .un :: .un :: .un :: .un :: .un :: .un :: .un :: .un :: .un :: .un :: .un :: .un :: .un :: .un :: .un :: .un :: .un :: .un :: []) ∧ j ≤ fs.length ∧ n = fs.length - j ∧ Hs = H) (fs.length) (false :: false :: true :: true :: false :: false :: false :: false :: false :: false :: false :: false :: false :: false :: false :: false :: false :: false :: false :: false :: false :: false :: false :: false :: false :: false :: false :: false :: false :: false :: false :: false :: false :: false :: false :: false :: false :: false :: false :: false :: false :: false :: false :: false :: false :: false :: false :: false :: false :: false :: false :: false :: false :: false :: false :: false :: false :: false :: false :: false :: false :: false :: false :: false :: false :: false :: false :: false :: false :: false :: false :: false :: true :: true :: false :: false :: false :: false :: false :: false :: false :: false :: false :: false :: false :: false :: false :: false :: false :: false :: false :: false :: false :: false :: false :: false :: false :: false :: false :: false :: false :: false :: false :: false :: false :: false :: [])
                · (try dsimp only [maskT]); try exact rfl
                · rfl
                · exact ⟨0, rfl, by omega, rfl, rfl⟩
                rintro n T H ⟨j, rfl, hj, rfl, rfl⟩
                refine aw_seq ?_
                refine aw_region ?_
                apply al_stepN
                · exact op_ltI (by rfl) (by rfl)
                · rfl
                · (try dsimp only [putT, List.set_cons_zero, List.set_cons_succ]); try exact rfl
                apply al_end
                · (try dsimp only [putT, List.set_cons_zero, List.set_cons_succ]); try exact rfl
                refine then_normal ?_
                refine aw_seq ?_
                refine aw_cond rfl (fun hc9 => ?_) (fun hc9 => ?_)
                · skip
                  (try simp only [decide_eq_true_eq, decide_eq_false_iff_not, beq_iff_eq, beq_eq_false_iff_ne, Bool.not_eq_true', Bool.not_eq_false', bne_iff_ne, ne_eq, Decidable.not_not, bne_eq_false_iff_eq, List.length_map] at hc9)
                  (try simp only [List.length_map] at hc9)
                  have hlt : j < fs.length := by omega
                  obtain ⟨x, hx1⟩ : ∃ x, fs[j]? = some x := ⟨_, List.getElem?_eq_getElem hlt⟩
                  refine aw_skip ?_
                  refine then_normal ?_
                  refine aw_seq ?_
                  refine aw_block ?_
                  refine aw_seq ?_
                  refine aw_region ?_
                  apply al_stepN
                  · exact op_move_tmp (by rfl)
                  · rfl
                  · (try dsimp only [putT, List.set_cons_zero, List.set_cons_succ]); try exact rfl
                  apply al_stepN
                  · exact op_assign_tmp (by rfl)
                  · rfl
                  · (try dsimp only [putT, List.set_cons_zero, List.set_cons_succ]); try exact rfl
                  apply al_end
                  · (try dsimp only [putT, List.set_cons_zero, List.set_cons_succ]); try exact rfl
                  refine then_normal ?_
                  refine aw_seq ?_
                  refine aw_draw [0, 1, 0, 0, 0, 1, 0, 1, 0, 0, 0, 1, 0, 0, 0, 1, 0, 0, 0, 1, 0, 1, 0, 0, 0, 1, 0, 0, 0] mixed (by kernel_rfl) ?_
                  apply drun0
                  · intro H; first | exact op_fieldAddr_ptr Try.underlying37 rfl Sz35 (by rfl) (by rfl) | exact op_fieldAddr_elt Try.underlying37 rfl Sz35 (by rfl) (by rfl) (by rfl)
                  · rfl
                  apply drun_normT
                  · (try dsimp only [putT, List.set_cons_zero, List.set_cons_succ]); try exact rfl
                  apply drun1
                  · first | exact op_load_elt Try.underlying35 (by rfl) (by rfl) (by rfl) | exact op_load_ptr Try.underlying35 (by rfl) (by rfl) (by rfl) (by rfl)
                  · rfl
                  apply drun_normT
                  · (try dsimp only [putT, List.set_cons_zero, List.set_cons_succ]); try exact rfl
                  apply drun0
                  · intro H; exact op_move_tmp (by rfl)
                  · rfl
                  apply drun_normT
                  · (try dsimp only [putT, List.set_cons_zero, List.set_cons_succ]); try exact rfl
                  apply drun0
                  · intro H; exact op_indexAddr (z := fD x) (cs := [S x.name, I x.val.kind, TF x.val.yes, .v (.int .i64 x.val.num), S x.val.text, .lst 6 (x.val.list.map vD), .lst 7 (x.val.fields.map fD)]) Try.underlying35 Sz89 (LL.d _ _) (by rfl) (by omega) (by rw [List.getElem?_map, show ((j : Nat) : Int).toNat = j from rfl, hx1]; rfl) (fD_cells7 x)
                  · rfl
                  apply drun_normT
                  · (try dsimp only [putT, List.set_cons_zero, List.set_cons_succ]); try exact rfl
                  apply drun0
                  · intro H; first | exact op_fieldAddr_ptr Try.underlying89 rfl Sz9 (by rfl) (by rfl) | exact op_fieldAddr_elt Try.underlying89 rfl Sz9 (by rfl) (by rfl) (by rfl)
                  · rfl
                  apply drun_normT
                  · (try dsimp only [putT, List.set_cons_zero, List.set_cons_succ]); try exact rfl
                  apply drun1
                  · first | exact op_load_elt Try.underlying9 (by rfl) (by rfl) (by rfl) | exact op_load_ptr Try.underlying9 (by rfl) (by rfl) (by rfl) (by rfl)
                  · rfl
                  apply drun_normT
                  · (try dsimp only [putT, List.set_cons_zero, List.set_cons_succ]); try exact rfl
                  apply drun0
                  · intro H; first | exact op_fieldAddr_ptr Try.underlying37 rfl Sz35 (by rfl) (by rfl) | exact op_fieldAddr_elt Try.underlying37 rfl Sz35 (by rfl) (by rfl) (by rfl)
                  · rfl
                  apply drun_normT
                  · (try dsimp only [putT, List.set_cons_zero, List.set_cons_succ]); try exact rfl
                  apply drun1
                  · first | exact op_load_elt Try.underlying35 (by rfl) (by rfl) (by rfl) | exact op_load_ptr Try.underlying35 (by rfl) (by rfl) (by rfl) (by rfl)
                  · rfl
                  apply drun_normT
                  · (try dsimp only [putT, List.set_cons_zero, List.set_cons_succ]); try exact rfl
                  apply drun0
                  · intro H; exact op_move_tmp (by rfl)
                  · rfl
                  apply drun_normT
                  · (try dsimp only [putT, List.set_cons_zero, List.set_cons_succ]); try exact rfl
                  apply drun0
                  · intro H; exact op_indexAddr (z := fD x) (cs := [S x.name, I x.val.kind, TF x.val.yes, .v (.int .i64 x.val.num), S x.val.text, .lst 6 (x.val.list.map vD), .lst 7 (x.val.fields.map fD)]) Try.underlying35 Sz89 (LL.d _ _) (by rfl) (by omega) (by rw [List.getElem?_map, show ((j : Nat) : Int).toNat = j from rfl, hx1]; rfl) (fD_cells7 x)
                  · rfl
                  apply drun_normT
                  · (try dsimp only [putT, List.set_cons_zero, List.set_cons_succ]); try exact rfl
                  apply drun0
                  · intro H; first | exact op_fieldAddr_ptr Try.underlying89 rfl Sz9 (by rfl) (by rfl) | exact op_fieldAddr_elt Try.underlying89 rfl Sz9 (by rfl) (by rfl) (by rfl)
                  · rfl
                  apply drun_normT
                  · (try dsimp only [putT, List.set_cons_zero, List.set_cons_succ]); try exact rfl
                  apply drun1
                  · first | exact op_load_elt Try.underlying9 (by rfl) (by rfl) (by rfl) | exact op_load_ptr Try.underlying9 (by rfl) (by rfl) (by rfl) (by rfl)
                  · rfl
                  apply drun_normT
                  · (try dsimp only [putT, List.set_cons_zero, List.set_cons_succ]); try exact rfl
                  apply drun0
                  · intro H; exact op_neS (by rfl) (by rfl)
                  · rfl
                  apply drun_normT
                  · (try dsimp only [putT, List.set_cons_zero, List.set_cons_succ]); try exact rfl
                  apply drun0
                  · intro H; exact op_move_tmp (by rfl)
                  · rfl
                  apply drun_normT
                  · (try dsimp only [putT, List.set_cons_zero, List.set_cons_succ]); try exact rfl
                  refine drun_split 89 rfl (fun hg10 => ?_) (fun hg10 => ?_)
                  · skip
                    (try simp only [decide_eq_true_eq, decide_eq_false_iff_not, beq_iff_eq, beq_eq_false_iff_ne, Bool.not_eq_true', Bool.not_eq_false', bne_iff_ne, ne_eq, Decidable.not_not, bne_eq_false_iff_eq, List.length_map] at hg10)
                    apply drun_normT
                    · (try dsimp only [putT, List.set_cons_zero, List.set_cons_succ]); try exact rfl
                    all_goals (first | exact absurd rfl hg10 | simp at hg10)
                  · skip
                    (try simp only [decide_eq_true_eq, decide_eq_false_iff_not, beq_iff_eq, beq_eq_false_iff_ne, Bool.not_eq_true', Bool.not_eq_false', bne_iff_ne, ne_eq, Decidable.not_not, bne_eq_false_iff_eq, List.length_map] at hg10)
                    apply drun_normT
                    · (try dsimp only [putT, List.set_cons_zero, List.set_cons_succ]); try exact rfl
                    apply drun0w
                    · rfl
                    · rfl
                    · rfl
                    · intro H; first | exact op_fieldAddr_ptr Try.underlying37 rfl Sz35 (by rfl) (by rfl) | exact op_fieldAddr_elt Try.underlying37 rfl Sz35 (by rfl) (by rfl) (by rfl)
                    apply drun_normT
                    · (try dsimp only [putT, List.set_cons_zero, List.set_cons_succ]); try exact rfl
                    apply drun1w
                    · rfl
                    · rfl
                    · rfl
                    · first | exact op_load_elt Try.underlying35 (by rfl) (by rfl) (by rfl) | exact op_load_ptr Try.underlying35 (by rfl) (by rfl) (by rfl) (by rfl)
                    apply drun_normT
                    · (try dsimp only [putT, List.set_cons_zero, List.set_cons_succ]); try exact rfl
                    apply drun0w
                    · rfl
                    · rfl
                    · rfl
                    · intro H; exact op_move_tmp (by rfl)
                    apply drun_normT
                    · (try dsimp only [putT, List.set_cons_zero, List.set_cons_succ]); try exact rfl
                    apply drun0w
                    · rfl
                    · rfl
                    · rfl
                    · intro H; exact op_indexAddr (z := fD x) (cs := [S x.name, I x.val.kind, TF x.val.yes, .v (.int .i64 x.val.num), S x.val.text, .lst 6 (x.val.list.map vD), .lst 7 (x.val.fields.map fD)]) Try.underlying35 Sz89 (LL.d _ _) (by rfl) (by omega) (by rw [List.getElem?_map, show ((j : Nat) : Int).toNat = j from rfl, hx1]; rfl) (fD_cells7 x)
                    apply drun_normT
                    · (try dsimp only [putT, List.set_cons_zero, List.set_cons_succ]); try exact rfl
                    apply drun0w
                    · rfl
                    · rfl
                    · rfl
                    · intro H; first | exact op_fieldAddr_ptr Try.underlying89 rfl Sz37 (by rfl) (by rfl) | exact op_fieldAddr_elt Try.underlying89 rfl Sz37 (by rfl) (by rfl) (by rfl)
                    apply drun_normT
                    · (try dsimp only [putT, List.set_cons_zero, List.set_cons_succ]); try exact rfl
                    apply drun1w
                    · rfl
                    · rfl
                    · rfl
                    · exact op_load_elts (ds := vC x.val) Try.underlying37 (by rfl) Sz37 (by rfl) (Nat.le_of_ble_eq_true rfl) (by rw [vC_eq]; rfl)
                    apply drun_normT
                    · (try dsimp only [putT, List.set_cons_zero, List.set_cons_succ]); try exact rfl
                    apply drun0w
                    · rfl
                    · rfl
                    · rfl
                    · intro H; first | exact op_fieldAddr_ptr Try.underlying37 rfl Sz35 (by rfl) (by rfl) | exact op_fieldAddr_elt Try.underlying37 rfl Sz35 (by rfl) (by rfl) (by rfl)
                    apply drun_normT
                    · (try dsimp only [putT, List.set_cons_zero, List.set_cons_succ]); try exact rfl
                    apply drun1w
                    · rfl
                    · rfl
                    · rfl
                    · first | exact op_load_elt Try.underlying35 (by rfl) (by rfl) (by rfl) | exact op_load_ptr Try.underlying35 (by rfl) (by rfl) (by rfl) (by rfl)
                    apply drun_normT
                    · (try dsimp only [putT, List.set_cons_zero, List.set_cons_succ]); try exact rfl
                    apply drun0w
                    · rfl
                    · rfl
                    · rfl
                    · intro H; exact op_move_tmp (by rfl)
                    apply drun_normT
                    · (try dsimp only [putT, List.set_cons_zero, List.set_cons_succ]); try exact rfl
                    apply drun0w
                    · rfl
                    · rfl
                    · rfl
                    · intro H; exact op_indexAddr (z := fD x) (cs := [S x.name, I x.val.kind, TF x.val.yes, .v (.int .i64 x.val.num), S x.val.text, .lst 6 (x.val.list.map vD), .lst 7 (x.val.fields.map fD)]) Try.underlying35 Sz89 (LL.d _ _) (by rfl) (by omega) (by rw [List.getElem?_map, show ((j : Nat) : Int).toNat = j from rfl, hx1]; rfl) (fD_cells7 x)
                    apply drun_normT
                    · (try dsimp only [putT, List.set_cons_zero, List.set_cons_succ]); try exact rfl
                    apply drun0w
                    · rfl
                    · rfl
                    · rfl
                    · intro H; first | exact op_fieldAddr_ptr Try.underlying89 rfl Sz37 (by rfl) (by rfl) | exact op_fieldAddr_elt Try.underlying89 rfl Sz37 (by rfl) (by rfl) (by rfl)
                    apply drun_normT
                    · (try dsimp only [putT, List.set_cons_zero, List.set_cons_succ]); try exact rfl
                    apply drun1w
                    · rfl
                    · rfl
                    · rfl
                    · exact op_load_elts (ds := vC x.val) Try.underlying37 (by rfl) Sz37 (by rfl) (Nat.le_of_ble_eq_true rfl) (by rw [vC_eq]; rfl)
                    apply drun_normT
                    · (try dsimp only [putT, List.set_cons_zero, List.set_cons_succ]); try exact rfl
                    apply drun0w
                    · rfl
                    · rfl
                    · rfl
                    · intro H; exact op_callF Try.func45 (by rfl) (by rfl) (.tmp (by rfl) (.tmp (by rfl) .nil)) (ihF x (List.mem_of_getElem? hx1) _)
                    apply drun_normT
                    · (try dsimp only [putT, List.set_cons_zero, List.set_cons_succ]); try exact rfl
                    apply drun0w
                    · rfl
                    · rfl
                    · rfl
                    · intro H; exact op_not (by rfl)
                    apply drun_normT
                    · (try dsimp only [putT, List.set_cons_zero, List.set_cons_succ]); try exact rfl
                    apply drun0
                    · intro H; exact op_pick_ff (by rfl) (val_tmp (by rfl))
                    · rfl
                    apply drun_normT
                    · (try dsimp only [putT, List.set_cons_zero, List.set_cons_succ]); try exact rfl
                    apply drun_end
                    · (try dsimp only [putT, List.set_cons_zero, List.set_cons_succ]); try exact rfl
                    refine then_normal ?_
                    refine aw_cond rfl (fun h => by cases h) (fun _ => ?_)
                    refine aw_skip ?_
                    refine inBlock_normal (then_normal ?_)
                    refine aw_region ?_
                    apply al_stepN
                    · first | exact op_add (by rfl) (by rfl) (wrap_i64 ⟨by omega, by omega⟩) | exact op_add (by rfl) (by rfl) (by rfl)
                    · rfl
                    · (try dsimp only [putT, List.set_cons_zero, List.set_cons_succ]); try exact rfl
                    apply al_stepN
                    · exact op_move_tmp (by rfl)
                    · rfl
                    · (try dsimp only [putT, List.set_cons_zero, List.set_cons_succ]); try exact rfl
                    apply al_end
                    · (try dsimp only [putT, List.set_cons_zero, List.set_cons_succ]); try exact rfl
                    apply again_to (fs.length - (j + 1)) (false :: false :: true :: true :: false :: false :: false :: false :: false :: false :: false :: false :: false :: false :: false :: false :: false :: false :: false :: false :: false :: false :: false :: false :: false :: false :: false :: false :: false :: false :: false :: false :: false :: false :: false :: false :: false :: false :: false :: false :: false :: false :: false :: false :: false :: false :: false :: false :: false :: false :: false :: false :: false :: false :: false :: false :: false :: false :: false :: false :: false :: false :: false :: false :: false :: false :: false :: false :: false :: false :: false :: false :: true :: true :: false :: false :: false :: false :: false :: false :: false :: false :: false :: false :: false :: false :: false :: false :: false :: false :: false :: false :: false :: false :: false :: false :: false :: false :: false :: false :: false :: false :: false :: false :: false :: false :: [])
                    · (try dsimp only [maskT]); try exact rfl
                    · rfl
                    · omega
                    exact ⟨j + 1, rfl, by omega, rfl, rfl⟩
                · skip
                  (try simp only [decide_eq_true_eq, decide_eq_false_iff_not, beq_iff_eq, beq_eq_false_iff_ne, Bool.not_eq_true', Bool.not_eq_false', bne_iff_ne, ne_eq, Decidable.not_not, bne_eq_false_iff_eq, List.length_map] at hc9)
                  (try simp only [List.length_map] at hc9)
                  have hje : j = fs.length := by omega
                  subst hje
                  refine aw_exit ?_
                  refine then_exit (again_exit (inBlock_here (then_normal ?_)))
                  refine aw_seq ?_
                  refine aw_region ?_
                  apply al_stepN
                  · exact op_assign_const (by rfl)
                  · rfl
                  · (try dsimp only [putT, List.set_cons_zero, List.set_cons_succ]); try exact rfl
                  apply al_end
                  · (try dsimp only [putT, List.set_cons_zero, List.set_cons_succ]); try exact rfl
                  refine then_normal ?_
                  refine aw_ret ?_
                  refine retPost1 rfl rfl ?_
                  exact ⟨rfl, rfl⟩
theorem same_all : ∀ (m : Nat) (v : V), SizeOf.sizeOf v ≤ m → SmallV v → ∀ Hs : HS, ACalls Try.prog 45 [.d (.agg (vC v)), .d (.agg (vC v))] Hs (Ret (.d (TF true)) Hs)
  | 0, v, hm, _, _ => by cases v; simp at hm
  | m + 1, v, hm, hs, Hs => by
    have hL := fun x hx => list_lt (v := v) (x := x) hx
    have hF := fun x hx => field_lt (v := v) (f := x) hx
    obtain ⟨k, y, i, tx, ls, fs, rfl⟩ : ∃ k y n t l fs, v = .mk k y n t l fs := ⟨_, _, _, _, _, _, v.eta⟩
    rw [v6D_eq]
    exact same_step Hs k y i tx ls fs hs.ll hs.fl (fun x hx Hs => same_all m x (by have := hL x hx; omega) (hs.l x hx) Hs) (fun x hx Hs => same_all m x.val (by have := hF x hx; omega) (hs.f x hx) Hs)
theorem same_self (Hs : HS) (v : V) (hv : SmallV v) : ACalls Try.prog 45 [.d (.agg (vC v)), .d (.agg (vC v))] Hs (Ret (.d (TF true)) Hs) := same_all _ v (Nat.le_refl _) hv Hs
end Go.Proofs.Ytadkehaagkjbhaa
