/- What the law ValBytes comes to. -/
import Derived.Test.YtadkehaagkjbhaaValLf
import Derived.Test.YtadkehaagkjbhaaValLr
import Derived.Test.YtadkehaagkjbhaaValLs
import Derived.Test.YtadkehaagkjbhaaValLaw
import Derived.Test.YtadkehaagkjbhaaArgVal
import Derived.KernelRfl
namespace Go.Proofs.Ytadkehaagkjbhaa
open Go.AV Go.AV.Ord Go.AV.Oct Go.AV.Val
set_option linter.unusedVariables false
set_option linter.unusedSimpArgs false
theorem vtypes : VTypes Try.prog 37 89 33 4 2 9 34 35 where
  v := ⟨_, Try.underlying37, ⟨_, rfl, rfl, rfl⟩, ⟨_, rfl, rfl, rfl⟩, ⟨_, rfl, rfl, rfl⟩, ⟨_, rfl, rfl, rfl⟩, ⟨_, rfl, rfl, rfl⟩, ⟨_, rfl, rfl, rfl⟩, rfl⟩
  f := ⟨_, Try.underlying89, ⟨_, rfl, rfl, rfl⟩, ⟨_, rfl, rfl, rfl⟩, rfl⟩
  k := Try.underlying33
  b := Try.underlying4
  i := Try.underlying2
  s := Try.underlying9
  l := Try.underlying34
  m := Try.underlying35
  cV := by kernel_rfl
  cF := by kernel_rfl
  cK := by kernel_rfl
  cB := by kernel_rfl
  cI := by kernel_rfl
  cS := by kernel_rfl
  cL := by kernel_rfl
  cM := by kernel_rfl
set_option maxRecDepth 100000 in
theorem valBytes_walk (Hs : HS) (v : V) (hw : WfV v) : ACalls Try.prog 8 [.d (.agg (vC v))] Hs (fun av _ => av = .d (TF true)) := by
  refine acalls_of_aw Try.func8 rfl ?_
  refine aw_start (T' := ((.d (.agg (vC v))) :: .un :: .un :: .un :: .un :: .un :: .un :: .un :: .un :: .un :: .un :: .un :: .un :: .un :: .un :: .un :: .un :: .un :: .un :: .un :: .un :: .un :: .un :: .un :: .un :: .un :: .un :: .un :: .un :: .un :: .un :: .un :: .un :: .un :: .un :: .un :: .un :: .un :: .un :: .un :: .un :: .un :: .un :: .un :: .un :: .un :: .un :: .un :: .un :: .un :: .un :: .un :: .un :: .un :: .un :: .un :: .un :: .un :: .un :: .un :: [])) rfl ?_
  refine aw_seq ?_
  refine aw_region ?_
  apply al_stepN
  · exact op_box_elt (cs := [I v.kind, TF v.yes, .v (.int .i64 v.num), S v.text, .lst 6 (v.list.map vD), .lst 7 (v.fields.map fD)]) (by rfl) (vD_cells v)
  · rfl
  · (try dsimp only [putT, List.set_cons_zero, List.set_cons_succ]); try exact rfl
  apply al_stepN
  · exact op_assign_const (by rfl)
  · rfl
  · (try dsimp only [putT, List.set_cons_zero, List.set_cons_succ]); try exact rfl
  apply al_end
  · (try dsimp only [putT, List.set_cons_zero, List.set_cons_succ]); try exact rfl
  refine then_normal ?_
  refine aw_seq ?_
  refine aw_seq ?_
  refine aw_region ?_
  apply al_stepN
  · exact op_callF Try.func40 (by rfl) (by rfl) .nil (vhead_ok _)
  · rfl
  · (try dsimp only [putT, List.set_cons_zero, List.set_cons_succ]); try exact rfl
  apply al_stepN
  · exact op_not (by rfl)
  · rfl
  · (try dsimp only [putT, List.set_cons_zero, List.set_cons_succ]); try exact rfl
  apply al_end
  · (try dsimp only [putT, List.set_cons_zero, List.set_cons_succ]); try exact rfl
  refine then_normal ?_
  refine aw_cond rfl (fun hc1 => ?_) (fun hc1 => ?_)
  · skip
    (try simp only [decide_eq_true_eq, decide_eq_false_iff_not, beq_iff_eq, beq_eq_false_iff_ne, Bool.not_eq_true', Bool.not_eq_false', bne_iff_ne, ne_eq, Decidable.not_not, bne_eq_false_iff_eq, List.length_map] at hc1)
    exact absurd hc1 (by decide)
  · skip
    (try simp only [decide_eq_true_eq, decide_eq_false_iff_not, beq_iff_eq, beq_eq_false_iff_ne, Bool.not_eq_true', Bool.not_eq_false', bne_iff_ne, ne_eq, Decidable.not_not, bne_eq_false_iff_eq, List.length_map] at hc1)
    refine aw_skip ?_
    refine then_normal ?_
    refine aw_seq ?_
    refine aw_seq ?_
    refine aw_region ?_
    apply al_stepN
    · exact op_load_elts (ds := vC v) Try.underlying37 (by rfl) Sz37 (by rfl) (Nat.le_of_ble_eq_true rfl) (by rw [vC_eq]; rfl)
    · rfl
    · (try dsimp only [putT, List.set_cons_zero, List.set_cons_succ]); try exact rfl
    apply al_stepN
    · exact op_callF Try.func20 (by rfl) (by rfl) (.tmp (by rfl) (.const (by rfl) .nil)) (few_ok 7 v (by decide) _)
    · rfl
    · (try dsimp only [putT, List.set_cons_zero, List.set_cons_succ]); try exact rfl
    apply al_stepN
    · exact op_not (by rfl)
    · rfl
    · (try dsimp only [putT, List.set_cons_zero, List.set_cons_succ]); try exact rfl
    apply al_end
    · (try dsimp only [putT, List.set_cons_zero, List.set_cons_succ]); try exact rfl
    refine then_normal ?_
    refine aw_cond rfl (fun hc2 => ?_) (fun hc2 => ?_)
    · skip
      (try simp only [decide_eq_true_eq, decide_eq_false_iff_not, beq_iff_eq, beq_eq_false_iff_ne, Bool.not_eq_true', Bool.not_eq_false', bne_iff_ne, ne_eq, Decidable.not_not, bne_eq_false_iff_eq, List.length_map] at hc2)
      refine aw_seq ?_
      refine aw_region ?_
      apply al_stepN
      · exact op_assign_const (by rfl)
      · rfl
      · (try dsimp only [putT, List.set_cons_zero, List.set_cons_succ]); try exact rfl
      apply al_end
      · (try dsimp only [putT, List.set_cons_zero, List.set_cons_succ]); try exact rfl
      refine then_normal ?_
      refine aw_ret ?_
      refine then_ret ?_
      refine retPost1 rfl rfl ?_
      first | exact rfl | (simp [TF]; done) | (simp [TF]; omega)
    · skip
      (try simp only [decide_eq_true_eq, decide_eq_false_iff_not, beq_iff_eq, beq_eq_false_iff_ne, Bool.not_eq_true', Bool.not_eq_false', bne_iff_ne, ne_eq, Decidable.not_not, bne_eq_false_iff_eq, List.length_map] at hc2)
      have hf : fewV 7 v = true := by simpa using hc2
      have hs := few_small 7 v hf
      have hB := few_max hf hw
      obtain ⟨bs, e, hO⟩ : ∃ bs e, encO v = (bs, e) := ⟨_, _, rfl⟩
      refine aw_skip ?_
      refine then_normal ?_
      refine aw_seq ?_
      refine aw_seq ?_
      refine aw_draw [1, 0, 1, 0, 0] mixed (by kernel_rfl) ?_
      apply drun1
      · exact op_load_elts (ds := vC v) Try.underlying37 (by rfl) Sz37 (by rfl) (Nat.le_of_ble_eq_true rfl) (by rw [vC_eq]; rfl)
      · rfl
      apply drun_normT
      · (try dsimp only [putT, List.set_cons_zero, List.set_cons_succ]); try exact rfl
      apply drun0
      · intro H; exact op_callF Try.func41 (by rfl) (by rfl) (.tmp (by rfl) .nil) (right_ok' _ v hs)
      · rfl
      apply drun_normT
      · (try dsimp only [putT, List.set_cons_zero, List.set_cons_succ]); try exact rfl
      apply drun1
      · exact op_load_elts (ds := vC v) Try.underlying37 (by rfl) Sz37 (by rfl) (Nat.le_of_ble_eq_true rfl) (by rw [vC_eq]; rfl)
      · rfl
      apply drun_normT
      · (try dsimp only [putT, List.set_cons_zero, List.set_cons_succ]); try exact rfl
      apply drun0
      · intro H; exact op_callF Try.func42 (by rfl) (by rfl) (.tmp (by rfl) (.const (by rfl) .nil)) (lright_ok 32 v (by decide) hs _)
      · rfl
      apply drun_normT
      · (try dsimp only [putT, List.set_cons_zero, List.set_cons_succ]); try exact rfl
      apply drun0
      · intro H; exact op_neB Try.underlying4 (by rfl) (by rfl)
      · rfl
      apply drun_normT
      · (try dsimp only [putT, List.set_cons_zero, List.set_cons_succ]); try exact rfl
      apply drun_end
      · (try dsimp only [putT, List.set_cons_zero, List.set_cons_succ]); try exact rfl
      refine then_normal ?_
      refine aw_cond rfl (fun hc3 => ?_) (fun hc3 => ?_)
      · skip
        (try simp only [decide_eq_true_eq, decide_eq_false_iff_not, beq_iff_eq, beq_eq_false_iff_ne, Bool.not_eq_true', Bool.not_eq_false', bne_iff_ne, ne_eq, Decidable.not_not, bne_eq_false_iff_eq, List.length_map] at hc3)
        all_goals (first | exact absurd rfl hc3 | simp at hc3)
      · skip
        (try simp only [decide_eq_true_eq, decide_eq_false_iff_not, beq_iff_eq, beq_eq_false_iff_ne, Bool.not_eq_true', Bool.not_eq_false', bne_iff_ne, ne_eq, Decidable.not_not, bne_eq_false_iff_eq, List.length_map] at hc3)
        refine aw_skip ?_
        refine then_normal ?_
        refine aw_seq ?_
        refine aw_region ?_
        apply al_stepN
        · exact op_load_elts (ds := vC v) Try.underlying37 (by rfl) Sz37 (by rfl) (Nat.le_of_ble_eq_true rfl) (by rw [vC_eq]; rfl)
        · rfl
        · (try dsimp only [putT, List.set_cons_zero, List.set_cons_succ]); try exact rfl
        apply al_stepN
        · exact op_callF Try.func43 (by rfl) (by rfl) (.tmp (by rfl) .nil) (venc_at hO hs hw hB)
        · rfl
        · (try dsimp only [putT, List.set_cons_zero, List.set_cons_succ]); try exact rfl
        apply al_stepN
        · exact op_move_tmp (by rfl)
        · rfl
        · (try dsimp only [putT, List.set_cons_zero, List.set_cons_succ]); try exact rfl
        apply al_stepN
        · exact op_extract (by rfl) (by rfl)
        · rfl
        · (try dsimp only [putT, List.set_cons_zero, List.set_cons_succ]); try exact rfl
        apply al_stepN
        · exact op_extract (by rfl) (by rfl)
        · rfl
        · (try dsimp only [putT, List.set_cons_zero, List.set_cons_succ]); try exact rfl
        apply al_stepN
        · exact op_assign_tmp (by rfl)
        · rfl
        · (try dsimp only [putT, List.set_cons_zero, List.set_cons_succ]); try exact rfl
        apply al_stepN
        · exact op_assign_tmp (by rfl)
        · rfl
        · (try dsimp only [putT, List.set_cons_zero, List.set_cons_succ]); try exact rfl
        apply al_end
        · (try dsimp only [putT, List.set_cons_zero, List.set_cons_succ]); try exact rfl
        refine then_normal ?_
        refine aw_seq ?_
        refine aw_seq ?_
        refine aw_region ?_
        apply al_stepN
        · exact op_load_elts (ds := vC v) Try.underlying37 (by rfl) Sz37 (by rfl) (Nat.le_of_ble_eq_true rfl) (by rw [vC_eq]; rfl)
        · rfl
        · (try dsimp only [putT, List.set_cons_zero, List.set_cons_succ]); try exact rfl
        apply al_stepN
        · exact op_callF Try.func42 (by rfl) (by rfl) (.tmp (by rfl) (.const (by rfl) .nil)) (lright_ok 32 v (by decide) hs _)
        · rfl
        · (try dsimp only [putT, List.set_cons_zero, List.set_cons_succ]); try exact rfl
        apply al_stepN
        · exact op_not (by rfl)
        · rfl
        · (try dsimp only [putT, List.set_cons_zero, List.set_cons_succ]); try exact rfl
        apply al_end
        · (try dsimp only [putT, List.set_cons_zero, List.set_cons_succ]); try exact rfl
        refine then_normal ?_
        refine aw_cond rfl (fun hc4 => ?_) (fun hc4 => ?_)
        · skip
          (try simp only [decide_eq_true_eq, decide_eq_false_iff_not, beq_iff_eq, beq_eq_false_iff_ne, Bool.not_eq_true', Bool.not_eq_false', bne_iff_ne, ne_eq, Decidable.not_not, bne_eq_false_iff_eq, List.length_map] at hc4)
          have hR : rightV 32 v = false := by simpa using hc4
          obtain ⟨rfl, rfl⟩ := encO_no hO hR
          refine aw_seq ?_
          refine aw_region ?_
          apply al_stepN
          · exact op_move_tmp (by rfl)
          · rfl
          · (try dsimp only [putT, List.set_cons_zero, List.set_cons_succ]); try exact rfl
          apply al_stepN
          · exact op_eqI (by rfl) (by rfl)
          · rfl
          · (try dsimp only [putT, List.set_cons_zero, List.set_cons_succ]); try exact rfl
          apply al_stepN
          · exact op_move_tmp (by rfl)
          · rfl
          · (try dsimp only [putT, List.set_cons_zero, List.set_cons_succ]); try exact rfl
          apply al_wantedN
          · rfl
          · rfl
          · rfl
          · exact op_move_tmp (by rfl)
          · (try dsimp only [putT, List.set_cons_zero, List.set_cons_succ]); try exact rfl
          apply al_wantedN
          · rfl
          · rfl
          · rfl
          · exact op_eqS (by rfl) (by rfl)
          · (try dsimp only [putT, List.set_cons_zero, List.set_cons_succ]); try exact rfl
          apply al_stepN
          · exact op_pick_tt (by rfl) (val_tmp (by rfl))
          · rfl
          · (try dsimp only [putT, List.set_cons_zero, List.set_cons_succ]); try exact rfl
          apply al_stepN
          · exact op_assign_tmp (by rfl)
          · rfl
          · (try dsimp only [putT, List.set_cons_zero, List.set_cons_succ]); try exact rfl
          apply al_end
          · (try dsimp only [putT, List.set_cons_zero, List.set_cons_succ]); try exact rfl
          refine then_normal ?_
          refine aw_ret ?_
          refine then_ret ?_
          refine retPost1 rfl rfl ?_
          first | exact rfl | (simp [TF]; done) | (simp [TF]; omega)
        · skip
          (try simp only [decide_eq_true_eq, decide_eq_false_iff_not, beq_iff_eq, beq_eq_false_iff_ne, Bool.not_eq_true', Bool.not_eq_false', bne_iff_ne, ne_eq, Decidable.not_not, bne_eq_false_iff_eq, List.length_map] at hc4)
          have hR : rightV 32 v = true := by simpa using hc4
          refine aw_skip ?_
          refine then_normal ?_
          refine aw_seq ?_
          refine aw_seq ?_
          refine aw_region ?_
          apply al_stepN
          · exact op_move_tmp (by rfl)
          · rfl
          · (try dsimp only [putT, List.set_cons_zero, List.set_cons_succ]); try exact rfl
          apply al_stepN
          · exact op_neI (by rfl) (by rfl)
          · rfl
          · (try dsimp only [putT, List.set_cons_zero, List.set_cons_succ]); try exact rfl
          apply al_end
          · (try dsimp only [putT, List.set_cons_zero, List.set_cons_succ]); try exact rfl
          refine then_normal ?_
          refine aw_cond rfl (fun hc5 => ?_) (fun hc5 => ?_)
          · skip
            (try simp only [decide_eq_true_eq, decide_eq_false_iff_not, beq_iff_eq, beq_eq_false_iff_ne, Bool.not_eq_true', Bool.not_eq_false', bne_iff_ne, ne_eq, Decidable.not_not, bne_eq_false_iff_eq, List.length_map] at hc5)
            obtain ⟨rfl, rfl⟩ := encO_long hO hR hc5
            refine aw_seq ?_
            refine aw_region ?_
            apply al_stepN
            · exact op_move_tmp (by rfl)
            · rfl
            · (try dsimp only [putT, List.set_cons_zero, List.set_cons_succ]); try exact rfl
            apply al_stepN
            · exact op_eqI (by rfl) (by rfl)
            · rfl
            · (try dsimp only [putT, List.set_cons_zero, List.set_cons_succ]); try exact rfl
            apply al_stepN
            · exact op_move_tmp (by rfl)
            · rfl
            · (try dsimp only [putT, List.set_cons_zero, List.set_cons_succ]); try exact rfl
            apply al_wantedN
            · rfl
            · rfl
            · rfl
            · exact op_move_tmp (by rfl)
            · (try dsimp only [putT, List.set_cons_zero, List.set_cons_succ]); try exact rfl
            apply al_wantedN
            · rfl
            · rfl
            · rfl
            · exact op_eqS (by rfl) (by rfl)
            · (try dsimp only [putT, List.set_cons_zero, List.set_cons_succ]); try exact rfl
            apply al_stepN
            · exact op_pick_tt (by rfl) (val_tmp (by rfl))
            · rfl
            · (try dsimp only [putT, List.set_cons_zero, List.set_cons_succ]); try exact rfl
            apply al_stepN
            · exact op_assign_tmp (by rfl)
            · rfl
            · (try dsimp only [putT, List.set_cons_zero, List.set_cons_succ]); try exact rfl
            apply al_end
            · (try dsimp only [putT, List.set_cons_zero, List.set_cons_succ]); try exact rfl
            refine then_normal ?_
            refine aw_ret ?_
            refine then_ret ?_
            refine retPost1 rfl rfl ?_
            first | exact rfl | (simp [TF]; done) | (simp [TF]; omega)
          · skip
            (try simp only [decide_eq_true_eq, decide_eq_false_iff_not, beq_iff_eq, beq_eq_false_iff_ne, Bool.not_eq_true', Bool.not_eq_false', bne_iff_ne, ne_eq, Decidable.not_not, bne_eq_false_iff_eq, List.length_map] at hc5)
            have he : e = 0 := by simpa using hc5
            obtain ⟨rfl, hlen⟩ := encO_yes hO hR he
            subst he
            have hD := decV_enc hR hw hlen
            refine aw_skip ?_
            refine then_normal ?_
            refine aw_seq ?_
            refine aw_region ?_
            apply al_stepN
            · exact op_move_tmp (by rfl)
            · rfl
            · (try dsimp only [putT, List.set_cons_zero, List.set_cons_succ]); try exact rfl
            apply al_stepN
            · exact op_callF Try.func44 (by rfl) (by rfl) (.tmp (by rfl) .nil) (vdec_at hD)
            · rfl
            · (try dsimp only [putT, List.set_cons_zero, List.set_cons_succ]); try exact rfl
            apply al_stepN
            · exact op_move_tmp (by rfl)
            · rfl
            · (try dsimp only [putT, List.set_cons_zero, List.set_cons_succ]); try exact rfl
            apply al_stepN
            · exact op_extract (by rfl) (by rfl)
            · rfl
            · (try dsimp only [putT, List.set_cons_zero, List.set_cons_succ]); try exact rfl
            apply al_stepN
            · exact op_extract (by rfl) (by rfl)
            · rfl
            · (try dsimp only [putT, List.set_cons_zero, List.set_cons_succ]); try exact rfl
            apply al_stepN
            · exact op_alloc (Zr37) (by rfl)
            · rfl
            · (try dsimp only [putT, List.set_cons_zero, List.set_cons_succ]); try exact rfl
            apply al_stepN
            · exact op_storeV (b' := ⟨37, (vC v).map .d, false⟩) v Sz37 (by rfl) push_at (by rfl) (Nat.le_of_ble_eq_true rfl) (by rfl) (by rw [vC_eq]; rfl)
            · rfl
            · (try dsimp only [putT, List.set_cons_zero, List.set_cons_succ]); try exact rfl
            apply al_stepN
            · exact op_assign_tmp (by rfl)
            · rfl
            · (try dsimp only [putT, List.set_cons_zero, List.set_cons_succ]); try exact rfl
            apply al_end
            · (try dsimp only [putT, List.set_cons_zero, List.set_cons_succ]); try exact rfl
            refine then_normal ?_
            refine aw_seq ?_
            refine aw_region ?_
            apply al_stepN
            · exact op_move_tmp (by rfl)
            · rfl
            · (try dsimp only [putT, List.set_cons_zero, List.set_cons_succ]); try exact rfl
            apply al_stepN
            · exact op_eqI (by rfl) (by rfl)
            · rfl
            · (try dsimp only [putT, List.set_cons_zero, List.set_cons_succ]); try exact rfl
            apply al_stepN
            · exact op_move_tmp (by rfl)
            · rfl
            · (try dsimp only [putT, List.set_cons_zero, List.set_cons_succ]); try exact rfl
            apply al_wantedN
            · rfl
            · rfl
            · rfl
            · exact op_load_ptrsD (vC v) Try.underlying37 (by rfl) Sz37 (by rfl) (setB_at push_at) (by show 0 + 6 ≤ ((vC v).map AV.d).length; rw [List.length_map, vC_len]; exact Nat.le_refl _) (by show (((vC v).map AV.d).drop 0).take 6 = _; rw [List.drop_zero, List.take_of_length_le (by rw [List.length_map, vC_len]; exact Nat.le_refl _)]) (vC_one v)
            · (try dsimp only [putT, List.set_cons_zero, List.set_cons_succ]); try exact rfl
            apply al_wantedN
            · rfl
            · rfl
            · rfl
            · exact op_load_elts (ds := vC v) Try.underlying37 (by rfl) Sz37 (by rfl) (Nat.le_of_ble_eq_true rfl) (by rw [vC_eq]; rfl)
            · (try dsimp only [putT, List.set_cons_zero, List.set_cons_succ]); try exact rfl
            apply al_wantedN
            · rfl
            · rfl
            · rfl
            · exact op_callF Try.func45 (by rfl) (by rfl) (.tmp (by rfl) (.tmp (by rfl) .nil)) (same_self _ v hs)
            · (try dsimp only [putT, List.set_cons_zero, List.set_cons_succ]); try exact rfl
            apply al_stepN
            · exact op_pick_tt (by rfl) (val_tmp (by rfl))
            · rfl
            · (try dsimp only [putT, List.set_cons_zero, List.set_cons_succ]); try exact rfl
            apply al_stepN
            · exact op_move_tmp (by rfl)
            · rfl
            · (try dsimp only [putT, List.set_cons_zero, List.set_cons_succ]); try exact rfl
            apply al_wantedN
            · rfl
            · rfl
            · rfl
            · exact op_load_ptrsD (vC v) Try.underlying37 (by rfl) Sz37 (by rfl) (setB_at push_at) (by show 0 + 6 ≤ ((vC v).map AV.d).length; rw [List.length_map, vC_len]; exact Nat.le_refl _) (by show (((vC v).map AV.d).drop 0).take 6 = _; rw [List.drop_zero, List.take_of_length_le (by rw [List.length_map, vC_len]; exact Nat.le_refl _)]) (vC_one v)
            · (try dsimp only [putT, List.set_cons_zero, List.set_cons_succ]); try exact rfl
            apply al_wantedN
            · rfl
            · rfl
            · rfl
            · exact op_callF Try.func41 (by rfl) (by rfl) (.tmp (by rfl) .nil) (right_at hR hs)
            · (try dsimp only [putT, List.set_cons_zero, List.set_cons_succ]); try exact rfl
            apply al_stepN
            · exact op_pick_tt (by rfl) (val_tmp (by rfl))
            · rfl
            · (try dsimp only [putT, List.set_cons_zero, List.set_cons_succ]); try exact rfl
            apply al_stepN
            · exact op_move_tmp (by rfl)
            · rfl
            · (try dsimp only [putT, List.set_cons_zero, List.set_cons_succ]); try exact rfl
            apply al_wantedN
            · rfl
            · rfl
            · rfl
            · exact op_move_tmp (by rfl)
            · (try dsimp only [putT, List.set_cons_zero, List.set_cons_succ]); try exact rfl
            apply al_wantedN
            · rfl
            · rfl
            · rfl
            · exact op_lenS Try.underlying9 (by rfl)
            · (try dsimp only [putT, List.set_cons_zero, List.set_cons_succ]); try exact rfl
            apply al_wantedN
            · rfl
            · rfl
            · rfl
            · exact op_leI (by rfl) (by rfl)
            · (try dsimp only [putT, List.set_cons_zero, List.set_cons_succ]); try exact rfl
            apply al_stepN
            · exact op_pick_tt (by rfl) (val_tmp (by rfl))
            · rfl
            · (try dsimp only [putT, List.set_cons_zero, List.set_cons_succ]); try exact rfl
            apply al_stepN
            · exact op_assign_tmp (by rfl)
            · rfl
            · (try dsimp only [putT, List.set_cons_zero, List.set_cons_succ]); try exact rfl
            apply al_end
            · (try dsimp only [putT, List.set_cons_zero, List.set_cons_succ]); try exact rfl
            refine then_normal ?_
            refine aw_ret ?_
            refine retPost1 rfl rfl ?_
            first | exact rfl | (simp [TF]; done) | (simp [TF]; omega)
end Go.Proofs.Ytadkehaagkjbhaa
