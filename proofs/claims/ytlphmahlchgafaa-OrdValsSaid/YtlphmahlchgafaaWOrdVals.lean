/- What the law OrdVals comes to. -/
import Derived.Test.YtlphmahlchgafaaOrdVW
import Derived.Test.YtlphmahlchgafaaValLf
import Derived.Test.YtlphmahlchgafaaValRt
import Derived.Test.YtlphmahlchgafaaOrdVPlain
import Derived.Test.YtlphmahlchgafaaSchKeys
import Derived.KernelRfl
namespace Go.Proofs.Ytlphmahlchgafaa
open Go.AV Go.AV.Ord Go.AV.Oct Go.AV.Val Go.AV.Sch
set_option linter.unusedVariables false
set_option linter.unusedSimpArgs false
theorem vtypes : VTypes Try.prog 49 65 45 4 2 9 46 47 where
  v := ⟨_, Try.underlying49, ⟨_, rfl, rfl, rfl⟩, ⟨_, rfl, rfl, rfl⟩, ⟨_, rfl, rfl, rfl⟩, ⟨_, rfl, rfl, rfl⟩, ⟨_, rfl, rfl, rfl⟩, ⟨_, rfl, rfl, rfl⟩, rfl⟩
  f := ⟨_, Try.underlying65, ⟨_, rfl, rfl, rfl⟩, ⟨_, rfl, rfl, rfl⟩, rfl⟩
  k := Try.underlying45
  b := Try.underlying4
  i := Try.underlying2
  s := Try.underlying9
  l := Try.underlying46
  m := Try.underlying47
  cV := by kernel_rfl
  cF := by kernel_rfl
  cK := by kernel_rfl
  cB := by kernel_rfl
  cI := by kernel_rfl
  cS := by kernel_rfl
  cL := by kernel_rfl
  cM := by kernel_rfl
set_option maxRecDepth 100000 in
theorem ordVals_walk1 (Hs : HS) (a b : V) (ahead : List UInt8) (hne : ahead ≠ []) (va : WfV a) (vb : WfV b) : ACalls Try.prog 10 [.d (.agg (vC a)), .d (.agg (vC b)), .d (.lst 1 (ahead.map BY))] Hs (fun av _ => av = .d (TF true)) := by
  refine acalls_of_aw Try.func10 rfl ?_
  refine aw_start (T' := ((.d (.agg (vC a))) :: (.d (.agg (vC b))) :: (.d (.lst 1 (ahead.map BY))) :: .un :: .un :: .un :: .un :: .un :: .un :: .un :: .un :: .un :: .un :: .un :: .un :: .un :: .un :: .un :: .un :: .un :: .un :: .un :: .un :: .un :: .un :: .un :: .un :: .un :: .un :: .un :: .un :: .un :: .un :: .un :: .un :: .un :: .un :: .un :: .un :: .un :: .un :: .un :: .un :: .un :: .un :: .un :: .un :: .un :: .un :: .un :: .un :: .un :: .un :: .un :: .un :: .un :: .un :: .un :: .un :: .un :: .un :: .un :: .un :: .un :: .un :: .un :: .un :: .un :: .un :: .un :: .un :: [])) rfl ?_
  refine aw_seq ?_
  refine aw_region ?_
  apply al_stepN
  · exact op_box_ptr (cs := (vC a).map .d) (by intro h; cases h) (by rfl)
  · rfl
  · (try dsimp only [zS, zN, zH, zT]); try exact rfl
  apply al_stepN
  · exact op_box_ptr (cs := (vC b).map .d) (by intro h; cases h) (by rfl)
  · rfl
  · (try dsimp only [zS, zN, zH, zT]); try exact rfl
  apply al_stepN
  · exact op_assign_const (by rfl)
  · rfl
  · (try dsimp only [zS, zN, zH, zT]); try exact rfl
  apply al_end
  · (try dsimp only [zS, zN, zH, zT]); try exact rfl
  refine then_normal ?_
  refine aw_seq ?_
  refine aw_seq ?_
  refine aw_region ?_
  apply al_stepN
  · exact op_callF Try.func11 (by rfl) (by rfl) .nil (head_ok _)
  · rfl
  · (try dsimp only [zS, zN, zH, zT]); try exact rfl
  apply al_stepN
  · exact op_not (by rfl)
  · rfl
  · (try dsimp only [zS, zN, zH, zT]); try exact rfl
  apply al_end
  · (try dsimp only [zS, zN, zH, zT]); try exact rfl
  refine then_normal ?_
  refine aw_cond rfl (fun hc1 => ?_) (fun hc1 => ?_)
  · skip
    (try simp only [decide_eq_true_eq, decide_eq_false_iff_not, beq_iff_eq, beq_eq_false_iff_ne, Bool.not_eq_true', Bool.not_eq_false', bne_iff_ne, ne_eq, Decidable.not_not, bne_eq_false_iff_eq, List.length_map] at hc1)
    exact absurd hc1 (by decide)
  · skip
    (try simp only [decide_eq_true_eq, decide_eq_false_iff_not, beq_iff_eq, beq_eq_false_iff_ne, Bool.not_eq_true', Bool.not_eq_false', bne_iff_ne, ne_eq, Decidable.not_not, bne_eq_false_iff_eq, List.length_map] at hc1)
    refine aw_skip ?_
    refine then_normal ?_
    refine aw_seq ?_
    refine aw_seq ?_
    refine aw_region ?_
    apply al_stepN
    · exact op_load_ptrsD (vC a) Try.underlying49 (by rfl) Sz49 (by rfl) (push_ne push_at) (by show 0 + 6 ≤ ((vC a).map AV.d).length; rw [List.length_map, vC_len]; exact Nat.le_refl _) (by show (((vC a).map AV.d).drop 0).take 6 = _; rw [List.drop_zero, List.take_of_length_le (by rw [List.length_map, vC_len]; exact Nat.le_refl _)]) (vC_one a)
    · rfl
    · (try dsimp only [zS, zN, zH, zT]); try exact rfl
    apply al_stepN
    · exact op_callF Try.func22 (by rfl) (by rfl) (.tmp (by rfl) (.const (by rfl) .nil)) (few_ok 7 a (by decide) _)
    · rfl
    · (try dsimp only [zS, zN, zH, zT]); try exact rfl
    apply al_stepN
    · exact op_not (by rfl)
    · rfl
    · (try dsimp only [zS, zN, zH, zT]); try exact rfl
    apply al_stepN
    · exact op_move_tmp (by rfl)
    · rfl
    · (try dsimp only [zS, zN, zH, zT]); try exact rfl
    refine al_split 15 rfl (fun hg2 => ?_) (fun hg2 => ?_)
    · skip
      (try simp only [decide_eq_true_eq, decide_eq_false_iff_not, beq_iff_eq, beq_eq_false_iff_ne, Bool.not_eq_true', Bool.not_eq_false', bne_iff_ne, ne_eq, Decidable.not_not, bne_eq_false_iff_eq, List.length_map] at hg2)
      apply al_normT
      · (try dsimp only [zS, zN, zH, zT]); try exact rfl
      refine al_unwanted rfl rfl rfl rfl ?_
      apply al_normT
      · (try dsimp only [zS, zN, zH, zT]); try exact rfl
      refine al_unwanted rfl rfl rfl rfl ?_
      apply al_normT
      · (try dsimp only [zS, zN, zH, zT]); try exact rfl
      refine al_unwanted rfl rfl rfl rfl ?_
      apply al_normT
      · (try dsimp only [zS, zN, zH, zT]); try exact rfl
      apply al_stepN
      · exact op_pick_tt (by rfl) (val_const (by rfl))
      · rfl
      · (try dsimp only [zS, zN, zH, zT]); try exact rfl
      apply al_stepN
      · exact op_move_tmp (by rfl)
      · rfl
      · (try dsimp only [zS, zN, zH, zT]); try exact rfl
      refine al_unwanted rfl rfl rfl rfl ?_
      apply al_normT
      · (try dsimp only [zS, zN, zH, zT]); try exact rfl
      refine al_unwanted rfl rfl rfl rfl ?_
      apply al_normT
      · (try dsimp only [zS, zN, zH, zT]); try exact rfl
      refine al_unwanted rfl rfl rfl rfl ?_
      apply al_normT
      · (try dsimp only [zS, zN, zH, zT]); try exact rfl
      apply al_stepN
      · exact op_pick_tt (by rfl) (val_const (by rfl))
      · rfl
      · (try dsimp only [zS, zN, zH, zT]); try exact rfl
      apply al_end
      · (try dsimp only [zS, zN, zH, zT]); try exact rfl
      refine then_normal ?_
      refine aw_cond rfl (fun _ => ?_) (fun h => by cases h)
      refine aw_seq ?_
      refine aw_region ?_
      apply al_stepN
      · exact op_assign_const (by rfl)
      · rfl
      · (try dsimp only [zS, zN, zH, zT]); try exact rfl
      apply al_end
      · (try dsimp only [zS, zN, zH, zT]); try exact rfl
      refine then_normal ?_
      refine aw_ret ?_
      refine then_ret ?_
      refine retPost1 rfl rfl ?_
      first | exact rfl | (simp [TF]; done) | (rw [f2]; rfl) | (simp [TF, f2]; done) | (simpa [TF] using f2)
    · skip
      (try simp only [decide_eq_true_eq, decide_eq_false_iff_not, beq_iff_eq, beq_eq_false_iff_ne, Bool.not_eq_true', Bool.not_eq_false', bne_iff_ne, ne_eq, Decidable.not_not, bne_eq_false_iff_eq, List.length_map] at hg2)
      have fa : fewV 7 a = true := by simpa using hg2
      apply al_normT
      · (try dsimp only [zS, zN, zH, zT]); try exact rfl
      apply al_wantedN
      · rfl
      · rfl
      · rfl
      · exact op_load_ptrsD (vC b) Try.underlying49 (by rfl) Sz49 (by rfl) push_at (by show 0 + 6 ≤ ((vC b).map AV.d).length; rw [List.length_map, vC_len]; exact Nat.le_refl _) (by show (((vC b).map AV.d).drop 0).take 6 = _; rw [List.drop_zero, List.take_of_length_le (by rw [List.length_map, vC_len]; exact Nat.le_refl _)]) (vC_one b)
      · (try dsimp only [zS, zN, zH, zT]); try exact rfl
      apply al_wantedN
      · rfl
      · rfl
      · rfl
      · exact op_callF Try.func22 (by rfl) (by rfl) (.tmp (by rfl) (.const (by rfl) .nil)) (few_ok 7 b (by decide) _)
      · (try dsimp only [zS, zN, zH, zT]); try exact rfl
      apply al_wantedN
      · rfl
      · rfl
      · rfl
      · exact op_not (by rfl)
      · (try dsimp only [zS, zN, zH, zT]); try exact rfl
      apply al_stepN
      · exact op_pick_ff (by rfl) (val_tmp (by rfl))
      · rfl
      · (try dsimp only [zS, zN, zH, zT]); try exact rfl
      apply al_stepN
      · exact op_move_tmp (by rfl)
      · rfl
      · (try dsimp only [zS, zN, zH, zT]); try exact rfl
      refine al_split 20 rfl (fun hg4 => ?_) (fun hg4 => ?_)
      · skip
        (try simp only [decide_eq_true_eq, decide_eq_false_iff_not, beq_iff_eq, beq_eq_false_iff_ne, Bool.not_eq_true', Bool.not_eq_false', bne_iff_ne, ne_eq, Decidable.not_not, bne_eq_false_iff_eq, List.length_map] at hg4)
        apply al_normT
        · (try dsimp only [zS, zN, zH, zT]); try exact rfl
        refine al_unwanted rfl rfl rfl rfl ?_
        apply al_normT
        · (try dsimp only [zS, zN, zH, zT]); try exact rfl
        refine al_unwanted rfl rfl rfl rfl ?_
        apply al_normT
        · (try dsimp only [zS, zN, zH, zT]); try exact rfl
        refine al_unwanted rfl rfl rfl rfl ?_
        apply al_normT
        · (try dsimp only [zS, zN, zH, zT]); try exact rfl
        apply al_stepN
        · exact op_pick_tt (by rfl) (val_const (by rfl))
        · rfl
        · (try dsimp only [zS, zN, zH, zT]); try exact rfl
        apply al_end
        · (try dsimp only [zS, zN, zH, zT]); try exact rfl
        refine then_normal ?_
        refine aw_cond rfl (fun _ => ?_) (fun h => by cases h)
        refine aw_seq ?_
        refine aw_region ?_
        apply al_stepN
        · exact op_assign_const (by rfl)
        · rfl
        · (try dsimp only [zS, zN, zH, zT]); try exact rfl
        apply al_end
        · (try dsimp only [zS, zN, zH, zT]); try exact rfl
        refine then_normal ?_
        refine aw_ret ?_
        refine then_ret ?_
        refine retPost1 rfl rfl ?_
        first | exact rfl | (simp [TF]; done) | (rw [f2]; rfl) | (simp [TF, f2]; done) | (simpa [TF] using f2)
      · skip
        (try simp only [decide_eq_true_eq, decide_eq_false_iff_not, beq_iff_eq, beq_eq_false_iff_ne, Bool.not_eq_true', Bool.not_eq_false', bne_iff_ne, ne_eq, Decidable.not_not, bne_eq_false_iff_eq, List.length_map] at hg4)
        have fb : fewV 7 b = true := by simpa using hg4
        apply al_normT
        · (try dsimp only [zS, zN, zH, zT]); try exact rfl
        apply al_wantedN
        · rfl
        · rfl
        · rfl
        · exact op_move_tmp (by rfl)
        · (try dsimp only [zS, zN, zH, zT]); try exact rfl
        apply al_wantedN
        · rfl
        · rfl
        · rfl
        · exact op_lenL Try.underlying22 (by first | exact LL.d _ _ | exact LL.own _ _ _ | exact LL.nil _ | assumption)
        · (try dsimp only [zS, zN, zH, zT]); try exact rfl
        apply al_wantedN
        · rfl
        · rfl
        · rfl
        · exact op_gtI (by rfl) (by rfl)
        · (try dsimp only [zS, zN, zH, zT]); try exact rfl
        apply al_stepN
        · exact op_pick_ff (by rfl) (val_tmp (by rfl))
        · rfl
        · (try dsimp only [zS, zN, zH, zT]); try exact rfl
        apply al_end
        · (try dsimp only [zS, zN, zH, zT]); try exact rfl
        refine then_normal ?_
        refine aw_cond rfl (fun hc6 => ?_) (fun hc6 => ?_)
        · skip
          (try simp only [decide_eq_true_eq, decide_eq_false_iff_not, beq_iff_eq, beq_eq_false_iff_ne, Bool.not_eq_true', Bool.not_eq_false', bne_iff_ne, ne_eq, Decidable.not_not, bne_eq_false_iff_eq, List.length_map] at hc6)
          refine aw_seq ?_
          refine aw_region ?_
          apply al_stepN
          · exact op_assign_const (by rfl)
          · rfl
          · (try dsimp only [zS, zN, zH, zT]); try exact rfl
          apply al_end
          · (try dsimp only [zS, zN, zH, zT]); try exact rfl
          refine then_normal ?_
          refine aw_ret ?_
          refine then_ret ?_
          refine retPost1 rfl rfl ?_
          first | exact rfl | (simp [TF]; done) | (rw [f2]; rfl) | (simp [TF, f2]; done) | (simpa [TF] using f2)
        · skip
          (try simp only [decide_eq_true_eq, decide_eq_false_iff_not, beq_iff_eq, beq_eq_false_iff_ne, Bool.not_eq_true', Bool.not_eq_false', bne_iff_ne, ne_eq, Decidable.not_not, bne_eq_false_iff_eq, List.length_map] at hc6)
          obtain ⟨ra, sa, wa, _⟩ := law_parts fa va
          obtain ⟨rb, sb, wb, _⟩ := law_parts fb vb
          have oa := law_ord fa va
          have ob := law_ord fb vb
          have h20 : ahead.length ≤ 20 := by (have h : ¬ 20 < (ahead.length : Int) := hc6); omega
          have hsg : (if (if cmpV (lawR a) (lawR b) > -1 then cmpV (lawR a) (lawR b) else -1) < 1 then (if cmpV (lawR a) (lawR b) > -1 then cmpV (lawR a) (lawR b) else -1) else 1) = cmpV (lawR a) (lawR b) := by rcases cmp_vals ra rb wa wb with h | h | h <;> rw [h] <;> rfl
          have hbc : byL (ahead ++ ordV (lawR a)) (ahead ++ ordV (lawR b)) = (if (if cmpV (lawR a) (lawR b) > -1 then cmpV (lawR a) (lawR b) else -1) < 1 then (if cmpV (lawR a) (lawR b) > -1 then cmpV (lawR a) (lawR b) else -1) else 1) := by rw [hsg]; exact cmp_by ra rb wa wb ahead
          have hbg : begins (ahead ++ ordV (lawR a)) ahead = true := begins_self_app _ _
          refine aw_skip ?_
          refine then_normal ?_
          refine aw_seq ?_
          refine aw_region ?_
          apply al_stepN
          · exact op_load_ptrsD (vC a) Try.underlying49 (by rfl) Sz49 (by rfl) (push_ne push_at) (by show 0 + 6 ≤ ((vC a).map AV.d).length; rw [List.length_map, vC_len]; exact Nat.le_refl _) (by show (((vC a).map AV.d).drop 0).take 6 = _; rw [List.drop_zero, List.take_of_length_le (by rw [List.length_map, vC_len]; exact Nat.le_refl _)]) (vC_one a)
          · rfl
          · (try dsimp only [zS, zN, zH, zT]); try exact rfl
          apply al_stepN
          · exact op_callF Try.func23 (by rfl) (by rfl) (.tmp (by rfl) .nil) (lawR_all 7 a fa _)
          · rfl
          · (try dsimp only [zS, zN, zH, zT]); try exact rfl
          apply al_stepN
          · exact op_storeVV a (lawR a) Sz49 (by rfl) (push_ne push_at) (by rfl)
          · rfl
          · (try dsimp only [zS, zN, zH, zT]); try exact rfl
          apply al_end
          · (try dsimp only [zS, zN, zH, zT]); try exact rfl
          refine then_normal ?_
          apply aw_cutF (fun T H => ∃ (i0 : Nat) (i1 : Nat), T = (.un :: .un :: (.d (.lst 1 (ahead.map BY))) :: (.ptr i0 0) :: (.ptr i1 0) :: .un :: .un :: .un :: .un :: .un :: .un :: .un :: .un :: .un :: .un :: .un :: .un :: .un :: .un :: .un :: .un :: .un :: .un :: .un :: .un :: .un :: .un :: .un :: .un :: .un :: .un :: .un :: .un :: .un :: .un :: .un :: .un :: .un :: .un :: .un :: .un :: .un :: .un :: .un :: .un :: .un :: .un :: .un :: .un :: .un :: .un :: .un :: .un :: .un :: .un :: .un :: .un :: .un :: .un :: .un :: .un :: .un :: .un :: .un :: .un :: .un :: .un :: .un :: .un :: .un :: .un :: []) ∧ H.blks[i0]? = some ⟨49, (vC (lawR a)).map .d, false⟩ ∧ H.blks[i1]? = some ⟨49, (vC (lawR b)).map .d, false⟩)
          · skip
            refine aw_region ?_
            apply al_stepN
            · exact op_load_ptrsD (vC b) Try.underlying49 (by rfl) Sz49 (by rfl) (by rw [setB_ne (by simp only [push_nb, ne_eq]; omega)]; exact push_at) (by show 0 + 6 ≤ ((vC b).map AV.d).length; rw [List.length_map, vC_len]; exact Nat.le_refl _) (by show (((vC b).map AV.d).drop 0).take 6 = _; rw [List.drop_zero, List.take_of_length_le (by rw [List.length_map, vC_len]; exact Nat.le_refl _)]) (vC_one b)
            · rfl
            · (try dsimp only [zS, zN, zH, zT]); try exact rfl
            apply al_stepN
            · exact op_callF Try.func23 (by rfl) (by rfl) (.tmp (by rfl) .nil) (lawR_all 7 b fb _)
            · rfl
            · (try dsimp only [zS, zN, zH, zT]); try exact rfl
            apply al_stepN
            · exact op_storeVV b (lawR b) Sz49 (by rfl) (by rw [setB_ne (by simp only [push_nb, ne_eq]; omega)]; exact push_at) (by rfl)
            · rfl
            · (try dsimp only [zS, zN, zH, zT]); try exact rfl
            apply al_end
            · (try dsimp only [zS, zN, zH, zT]); try exact rfl
            apply cut_to (false :: false :: true :: true :: true :: false :: false :: false :: false :: false :: false :: false :: false :: false :: false :: false :: false :: false :: false :: false :: false :: false :: false :: false :: false :: false :: false :: false :: false :: false :: false :: false :: false :: false :: false :: false :: false :: false :: false :: false :: false :: false :: false :: false :: false :: false :: false :: false :: false :: false :: false :: false :: false :: false :: false :: false :: false :: false :: false :: false :: false :: false :: false :: false :: false :: false :: false :: false :: false :: false :: false :: [])
            · (try dsimp only [maskT]); try exact rfl
            · rfl
            exact ⟨_, _, rfl, (by rw [setB_ne (by simp only [push_nb, ne_eq]; omega)]; exact setB_at (push_ne push_at)), (setB_at (by rw [setB_ne (by simp only [push_nb, ne_eq]; omega)]; exact push_at))⟩
          rintro T H ⟨i0, i1, rfl, e0, e1⟩
          refine aw_seq ?_
          refine aw_drawX (fun K => K.blks[i0]? = some ⟨49, (vC (lawR a)).map .d, false⟩) [0, 0, 2, 0, 2, 0, 0] mixed (by kernel_rfl) (e0) (.inr (by kernel_rfl)) ?_
          apply drun0X
          · intro H hPhi; exact op_lit Try.underlying22 ZS5 (.nil _) (by rfl) (by simp [BY, S, I, TF, DV.cells]) (by simp [flat, BY, S, I, TF, DV.cells, DV.one]) (by decide)
          · rfl
          apply drun_normT
          · (try dsimp only [zS, zN, zH, zT]); try exact rfl
          apply drun0X
          · intro H hPhi; exact op_move_tmp (by rfl)
          · rfl
          apply drun_normT
          · (try dsimp only [zS, zN, zH, zT]); try exact rfl
          apply drun2X
          · exact op_appendN Try.underlying22 Inf5 (by rfl) (.list _ _ _ _ Try.underlying22 (LL.d _ _)) hne (by omega)
          · rfl
          · refine .inr ?_; (first | exact e0 | (simp only [HS.up_blks]; exact e0))
          apply drun_normT
          · (try dsimp only [zS, zN, zH, zT]); try exact rfl
          apply drun0X
          · intro H hPhi; exact op_load_ptrsD (vC (lawR a)) Try.underlying49 (by rfl) Sz49 (by rfl) hPhi (by show 0 + 6 ≤ ((vC (lawR a)).map AV.d).length; rw [List.length_map, vC_len]; exact Nat.le_refl _) (by show (((vC (lawR a)).map AV.d).drop 0).take 6 = _; rw [List.drop_zero, List.take_of_length_le (by rw [List.length_map, vC_len]; exact Nat.le_refl _)]) (vC_one (lawR a))
          · rfl
          apply drun_normT
          · (try dsimp only [zS, zN, zH, zT]); try exact rfl
          apply drun2X
          · exact op_callF Try.func24 (by rfl) (by rfl) (.tmp (by rfl) (.tmp (by rfl) .nil)) (ordV_ok 32 (lawR a) ra wa (upB _ none ahead) (some (HS.tk _ none)) _ ahead (App.own _ _ _) (okB _ none ahead (HS.ok_none _ 0)) (by omega))
          · rfl
          · refine .inr ?_; (first | exact e0 | (simp only [HS.up_blks]; exact e0))
          apply drun_normT
          · (try dsimp only [zS, zN, zH, zT]); try exact rfl
          apply drun0X
          · intro H hPhi; exact op_string Try.underlying22 Try.underlying9 Try.underlying5 (by first | exact LL.d _ _ | exact LL.own _ _ _ | exact LL.nil _ | assumption) (by rfl)
          · rfl
          apply drun_normT
          · (try dsimp only [zS, zN, zH, zT]); try exact rfl
          apply drun0X
          · intro H hPhi; exact op_assign_tmp (by rfl)
          · rfl
          apply drun_normT
          · (try dsimp only [zS, zN, zH, zT]); try exact rfl
          apply drun_end
          · (try dsimp only [zS, zN, zH, zT]); try exact rfl
          refine then_normal ?_
          refine aw_seq ?_
          refine aw_drawX (fun K => K.blks[i1]? = some ⟨49, (vC (lawR b)).map .d, false⟩) [0, 0, 2, 0, 2, 0, 0] mixed (by kernel_rfl) ((by first | exact e1 | (simp only [HS.up_blks]; exact e1))) (.inr (by kernel_rfl)) ?_
          apply drun0X
          · intro H hPhi; exact op_lit Try.underlying22 ZS5 (.nil _) (by rfl) (by simp [BY, S, I, TF, DV.cells]) (by simp [flat, BY, S, I, TF, DV.cells, DV.one]) (by decide)
          · rfl
          apply drun_normT
          · (try dsimp only [zS, zN, zH, zT]); try exact rfl
          apply drun0X
          · intro H hPhi; exact op_move_tmp (by rfl)
          · rfl
          apply drun_normT
          · (try dsimp only [zS, zN, zH, zT]); try exact rfl
          apply drun2X
          · exact op_appendN Try.underlying22 Inf5 (by rfl) (.list _ _ _ _ Try.underlying22 (LL.d _ _)) hne (by omega)
          · rfl
          · refine .inr ?_; (first | exact e1 | (simp only [HS.up_blks]; exact e1))
          apply drun_normT
          · (try dsimp only [zS, zN, zH, zT]); try exact rfl
          apply drun0X
          · intro H hPhi; exact op_load_ptrsD (vC (lawR b)) Try.underlying49 (by rfl) Sz49 (by rfl) hPhi (by show 0 + 6 ≤ ((vC (lawR b)).map AV.d).length; rw [List.length_map, vC_len]; exact Nat.le_refl _) (by show (((vC (lawR b)).map AV.d).drop 0).take 6 = _; rw [List.drop_zero, List.take_of_length_le (by rw [List.length_map, vC_len]; exact Nat.le_refl _)]) (vC_one (lawR b))
          · rfl
          apply drun_normT
          · (try dsimp only [zS, zN, zH, zT]); try exact rfl
          apply drun2X
          · exact op_callF Try.func24 (by rfl) (by rfl) (.tmp (by rfl) (.tmp (by rfl) .nil)) (ordV_ok 32 (lawR b) rb wb (upB _ none ahead) (some (HS.tk _ none)) _ ahead (App.own _ _ _) (okB _ none ahead (HS.ok_none _ 0)) (by omega))
          · rfl
          · refine .inr ?_; (first | exact e1 | (simp only [HS.up_blks]; exact e1))
          apply drun_normT
          · (try dsimp only [zS, zN, zH, zT]); try exact rfl
          apply drun0X
          · intro H hPhi; exact op_string Try.underlying22 Try.underlying9 Try.underlying5 (by first | exact LL.d _ _ | exact LL.own _ _ _ | exact LL.nil _ | assumption) (by rfl)
          · rfl
          apply drun_normT
          · (try dsimp only [zS, zN, zH, zT]); try exact rfl
          apply drun0X
          · intro H hPhi; exact op_assign_tmp (by rfl)
          · rfl
          apply drun_normT
          · (try dsimp only [zS, zN, zH, zT]); try exact rfl
          apply drun_end
          · (try dsimp only [zS, zN, zH, zT]); try exact rfl
          refine then_normal ?_
          refine aw_seq ?_
          refine aw_region ?_
          apply al_stepN
          · exact op_load_ptrsD (vC (lawR a)) Try.underlying49 (by rfl) Sz49 (by rfl) (by first | exact e0 | (simp only [HS.up_blks]; exact e0)) (by show 0 + 6 ≤ ((vC (lawR a)).map AV.d).length; rw [List.length_map, vC_len]; exact Nat.le_refl _) (by show (((vC (lawR a)).map AV.d).drop 0).take 6 = _; rw [List.drop_zero, List.take_of_length_le (by rw [List.length_map, vC_len]; exact Nat.le_refl _)]) (vC_one (lawR a))
          · rfl
          · (try dsimp only [zS, zN, zH, zT]); try exact rfl
          apply al_stepN
          · exact op_load_ptrsD (vC (lawR b)) Try.underlying49 (by rfl) Sz49 (by rfl) (by first | exact e1 | (simp only [HS.up_blks]; exact e1)) (by show 0 + 6 ≤ ((vC (lawR b)).map AV.d).length; rw [List.length_map, vC_len]; exact Nat.le_refl _) (by show (((vC (lawR b)).map AV.d).drop 0).take 6 = _; rw [List.drop_zero, List.take_of_length_le (by rw [List.length_map, vC_len]; exact Nat.le_refl _)]) (vC_one (lawR b))
          · rfl
          · (try dsimp only [zS, zN, zH, zT]); try exact rfl
          apply al_stepN
          · exact op_callF Try.func25 (by rfl) (by rfl) (.tmp (by rfl) (.tmp (by rfl) .nil)) (cmp_ok _ (lawR a) (lawR b) sa sb)
          · rfl
          · (try dsimp only [zS, zN, zH, zT]); try exact rfl
          apply al_stepN
          · exact op_callF Try.func19 (by rfl) (by rfl) (.tmp (by rfl) .nil) (sign_ok _ _)
          · rfl
          · (try dsimp only [zS, zN, zH, zT]); try exact rfl
          apply al_stepN
          · exact op_assign_tmp (by rfl)
          · rfl
          · (try dsimp only [zS, zN, zH, zT]); try exact rfl
          apply al_end
          · (try dsimp only [zS, zN, zH, zT]); try exact rfl
          refine then_normal ?_
          refine aw_seq ?_
          refine aw_seq ?_
          refine aw_region ?_
          apply al_stepN
          · exact op_move_tmp (by rfl)
          · rfl
          · (try dsimp only [zS, zN, zH, zT]); try exact rfl
          apply al_stepN
          · exact op_move_tmp (by rfl)
          · rfl
          · (try dsimp only [zS, zN, zH, zT]); try exact rfl
          apply al_stepN
          · exact op_string Try.underlying22 Try.underlying9 Try.underlying5 (by first | exact LL.d _ _ | exact LL.own _ _ _ | exact LL.nil _ | assumption) (by rfl)
          · rfl
          · (try dsimp only [zS, zN, zH, zT]); try exact rfl
          apply al_stepN
          · exact op_callF Try.func16 (by rfl) (by rfl) (.tmp (by rfl) (.tmp (by rfl) .nil)) (begins_ok _ _ _)
          · rfl
          · (try dsimp only [zS, zN, zH, zT]); try exact rfl
          apply al_stepN
          · exact op_not (by rfl)
          · rfl
          · (try dsimp only [zS, zN, zH, zT]); try exact rfl
          apply al_stepN
          · exact op_move_tmp (by rfl)
          · rfl
          · (try dsimp only [zS, zN, zH, zT]); try exact rfl
          refine al_split 50 rfl (fun hg7 => ?_) (fun hg7 => ?_)
          · skip
            (try simp only [decide_eq_true_eq, decide_eq_false_iff_not, beq_iff_eq, beq_eq_false_iff_ne, Bool.not_eq_true', Bool.not_eq_false', bne_iff_ne, ne_eq, Decidable.not_not, bne_eq_false_iff_eq, List.length_map] at hg7)
            apply al_normT
            · (try dsimp only [zS, zN, zH, zT]); try exact rfl
            rw [hbg] at hg7; cases hg7
          · skip
            (try simp only [decide_eq_true_eq, decide_eq_false_iff_not, beq_iff_eq, beq_eq_false_iff_ne, Bool.not_eq_true', Bool.not_eq_false', bne_iff_ne, ne_eq, Decidable.not_not, bne_eq_false_iff_eq, List.length_map] at hg7)
            apply al_normT
            · (try dsimp only [zS, zN, zH, zT]); try exact rfl
            apply al_wantedN
            · rfl
            · rfl
            · rfl
            · exact op_move_tmp (by rfl)
            · (try dsimp only [zS, zN, zH, zT]); try exact rfl
            apply al_wantedN
            · rfl
            · rfl
            · rfl
            · exact op_move_tmp (by rfl)
            · (try dsimp only [zS, zN, zH, zT]); try exact rfl
            apply al_wantedN
            · rfl
            · rfl
            · rfl
            · exact op_callF Try.func13 (by rfl) (by rfl) (.tmp (by rfl) (.tmp (by rfl) .nil)) (by_ok _ _ _)
            · (try dsimp only [zS, zN, zH, zT]); try exact rfl
            apply al_wantedN
            · rfl
            · rfl
            · rfl
            · exact op_move_tmp (by rfl)
            · (try dsimp only [zS, zN, zH, zT]); try exact rfl
            apply al_wantedN
            · rfl
            · rfl
            · rfl
            · exact op_neI (by rfl) (by rfl)
            · (try dsimp only [zS, zN, zH, zT]); try exact rfl
            apply al_stepN
            · exact op_pick_ff (by rfl) (val_tmp (by rfl))
            · rfl
            · (try dsimp only [zS, zN, zH, zT]); try exact rfl
            apply al_end
            · (try dsimp only [zS, zN, zH, zT]); try exact rfl
            refine then_normal ?_
            refine aw_cond rfl (fun hc8 => ?_) (fun hc8 => ?_)
            · skip
              (try simp only [decide_eq_true_eq, decide_eq_false_iff_not, beq_iff_eq, beq_eq_false_iff_ne, Bool.not_eq_true', Bool.not_eq_false', bne_iff_ne, ne_eq, Decidable.not_not, bne_eq_false_iff_eq, List.length_map] at hc8)
              exact absurd hbc hc8
            · skip
              (try simp only [decide_eq_true_eq, decide_eq_false_iff_not, beq_iff_eq, beq_eq_false_iff_ne, Bool.not_eq_true', Bool.not_eq_false', bne_iff_ne, ne_eq, Decidable.not_not, bne_eq_false_iff_eq, List.length_map] at hc8)
              refine aw_skip ?_
              refine then_normal ?_
              refine aw_seq ?_
              refine aw_region ?_
              apply al_stepN
              · exact op_move_tmp (by rfl)
              · rfl
              · (try dsimp only [zS, zN, zH, zT]); try exact rfl
              apply al_stepN
              · exact op_eqI (by rfl) (by rfl)
              · rfl
              · (try dsimp only [zS, zN, zH, zT]); try exact rfl
              apply al_stepN
              · exact op_move_tmp (by rfl)
              · rfl
              · (try dsimp only [zS, zN, zH, zT]); try exact rfl
              refine al_split 59 rfl (fun hg9 => ?_) (fun hg9 => ?_)
              · skip
                (try simp only [decide_eq_true_eq, decide_eq_false_iff_not, beq_iff_eq, beq_eq_false_iff_ne, Bool.not_eq_true', Bool.not_eq_false', bne_iff_ne, ne_eq, Decidable.not_not, bne_eq_false_iff_eq, List.length_map] at hg9)
                apply al_normT
                · (try dsimp only [zS, zN, zH, zT]); try exact rfl
                refine al_unwanted rfl rfl rfl rfl ?_
                apply al_normT
                · (try dsimp only [zS, zN, zH, zT]); try exact rfl
                refine al_unwanted rfl rfl rfl rfl ?_
                apply al_normT
                · (try dsimp only [zS, zN, zH, zT]); try exact rfl
                refine al_unwanted rfl rfl rfl rfl ?_
                apply al_normT
                · (try dsimp only [zS, zN, zH, zT]); try exact rfl
                refine al_unwanted rfl rfl rfl rfl ?_
                apply al_normT
                · (try dsimp only [zS, zN, zH, zT]); try exact rfl
                refine al_unwanted rfl rfl rfl rfl ?_
                apply al_normT
                · (try dsimp only [zS, zN, zH, zT]); try exact rfl
                refine al_unwanted0 rfl rfl rfl ?_
                apply al_normT
                · (try dsimp only [zS, zN, zH, zT]); try exact rfl
                refine al_unwanted0 rfl rfl rfl ?_
                apply al_normT
                · (try dsimp only [zS, zN, zH, zT]); try exact rfl
                refine al_unwanted0 rfl rfl rfl ?_
                apply al_normT
                · (try dsimp only [zS, zN, zH, zT]); try exact rfl
                refine al_unwanted0 rfl rfl rfl ?_
                apply al_normT
                · (try dsimp only [zS, zN, zH, zT]); try exact rfl
                refine al_unwanted rfl rfl rfl rfl ?_
                apply al_normT
                · (try dsimp only [zS, zN, zH, zT]); try exact rfl
                apply al_stepN
                · exact op_pick_tt (by rfl) (val_const (by rfl))
                · rfl
                · (try dsimp only [zS, zN, zH, zT]); try exact rfl
                apply al_stepN
                · exact op_assign_tmp (by rfl)
                · rfl
                · (try dsimp only [zS, zN, zH, zT]); try exact rfl
                apply al_end
                · (try dsimp only [zS, zN, zH, zT]); try exact rfl
                refine then_normal ?_
                refine aw_ret ?_
                refine retPost1 rfl rfl ?_
                first | exact rfl | (simp [TF]; done) | (rw [f2]; rfl) | (simp [TF, f2]; done) | (simpa [TF] using f2)
              · skip
                (try simp only [decide_eq_true_eq, decide_eq_false_iff_not, beq_iff_eq, beq_eq_false_iff_ne, Bool.not_eq_true', Bool.not_eq_false', bne_iff_ne, ne_eq, Decidable.not_not, bne_eq_false_iff_eq, List.length_map] at hg9)
                have hz : ¬ cmpV (lawR a) (lawR b) = 0 := by rw [← hsg]; exact hg9
                have f1 := ord_apart ra rb wa wb hz ahead
                have f2 := ord_apart rb ra wb wa (by rw [cmp_neg ra rb wa wb]; omega) ahead
                apply al_normT
                · (try dsimp only [zS, zN, zH, zT]); try exact rfl
                apply al_wantedN
                · rfl
                · rfl
                · rfl
                · exact op_move_tmp (by rfl)
                · (try dsimp only [zS, zN, zH, zT]); try exact rfl
                apply al_wantedN
                · rfl
                · rfl
                · rfl
                · exact op_move_tmp (by rfl)
                · (try dsimp only [zS, zN, zH, zT]); try exact rfl
                apply al_wantedN
                · rfl
                · rfl
                · rfl
                · exact op_callF Try.func16 (by rfl) (by rfl) (.tmp (by rfl) (.tmp (by rfl) .nil)) (begins_ok _ _ _)
                · (try dsimp only [zS, zN, zH, zT]); try exact rfl
                apply al_wantedN
                · rfl
                · rfl
                · rfl
                · exact op_not (by rfl)
                · (try dsimp only [zS, zN, zH, zT]); try exact rfl
                apply al_wantedN
                · rfl
                · rfl
                · rfl
                · exact op_move_tmp (by rfl)
                · (try dsimp only [zS, zN, zH, zT]); try exact rfl
                refine al_split 64 rfl (fun hg10 => ?_) (fun hg10 => ?_)
                · skip
                  (try simp only [decide_eq_true_eq, decide_eq_false_iff_not, beq_iff_eq, beq_eq_false_iff_ne, Bool.not_eq_true', Bool.not_eq_false', bne_iff_ne, ne_eq, Decidable.not_not, bne_eq_false_iff_eq, List.length_map] at hg10)
                  apply al_normT
                  · (try dsimp only [zS, zN, zH, zT]); try exact rfl
                  apply al_wantedN
                  · rfl
                  · rfl
                  · rfl
                  · exact op_move_tmp (by rfl)
                  · (try dsimp only [zS, zN, zH, zT]); try exact rfl
                  apply al_wantedN
                  · rfl
                  · rfl
                  · rfl
                  · exact op_move_tmp (by rfl)
                  · (try dsimp only [zS, zN, zH, zT]); try exact rfl
                  apply al_wantedN
                  · rfl
                  · rfl
                  · rfl
                  · exact op_callF Try.func16 (by rfl) (by rfl) (.tmp (by rfl) (.tmp (by rfl) .nil)) (begins_ok _ _ _)
                  · (try dsimp only [zS, zN, zH, zT]); try exact rfl
                  apply al_wantedN
                  · rfl
                  · rfl
                  · rfl
                  · exact op_not (by rfl)
                  · (try dsimp only [zS, zN, zH, zT]); try exact rfl
                  apply al_wantedN
                  · rfl
                  · rfl
                  · rfl
                  · exact op_pick_tt (by rfl) (val_tmp (by rfl))
                  · (try dsimp only [zS, zN, zH, zT]); try exact rfl
                  apply al_stepN
                  · exact op_pick_ff (by rfl) (val_tmp (by rfl))
                  · rfl
                  · (try dsimp only [zS, zN, zH, zT]); try exact rfl
                  apply al_stepN
                  · exact op_assign_tmp (by rfl)
                  · rfl
                  · (try dsimp only [zS, zN, zH, zT]); try exact rfl
                  apply al_end
                  · (try dsimp only [zS, zN, zH, zT]); try exact rfl
                  refine then_normal ?_
                  refine aw_ret ?_
                  refine retPost1 rfl rfl ?_
                  first | exact rfl | (simp [TF]; done) | (rw [f2]; rfl) | (simp [TF, f2]; done) | (simpa [TF] using f2)
                · skip
                  (try simp only [decide_eq_true_eq, decide_eq_false_iff_not, beq_iff_eq, beq_eq_false_iff_ne, Bool.not_eq_true', Bool.not_eq_false', bne_iff_ne, ne_eq, Decidable.not_not, bne_eq_false_iff_eq, List.length_map] at hg10)
                  apply al_normT
                  · (try dsimp only [zS, zN, zH, zT]); try exact rfl
                  rw [f1] at hg10; cases hg10
set_option maxRecDepth 100000 in
theorem ordVals_walk0 (Hs : HS) (a b : V) (va : WfV a) (vb : WfV b) : ACalls Try.prog 10 [.d (.agg (vC a)), .d (.agg (vC b)), .d (.lst 1 [])] Hs (fun av _ => av = .d (TF true)) := by
  refine acalls_of_aw Try.func10 rfl ?_
  refine aw_start (T' := ((.d (.agg (vC a))) :: (.d (.agg (vC b))) :: (.d (.lst 1 [])) :: .un :: .un :: .un :: .un :: .un :: .un :: .un :: .un :: .un :: .un :: .un :: .un :: .un :: .un :: .un :: .un :: .un :: .un :: .un :: .un :: .un :: .un :: .un :: .un :: .un :: .un :: .un :: .un :: .un :: .un :: .un :: .un :: .un :: .un :: .un :: .un :: .un :: .un :: .un :: .un :: .un :: .un :: .un :: .un :: .un :: .un :: .un :: .un :: .un :: .un :: .un :: .un :: .un :: .un :: .un :: .un :: .un :: .un :: .un :: .un :: .un :: .un :: .un :: .un :: .un :: .un :: .un :: .un :: [])) rfl ?_
  refine aw_seq ?_
  refine aw_region ?_
  apply al_stepN
  · exact op_box_ptr (cs := (vC a).map .d) (by intro h; cases h) (by rfl)
  · rfl
  · (try dsimp only [zS, zN, zH, zT]); try exact rfl
  apply al_stepN
  · exact op_box_ptr (cs := (vC b).map .d) (by intro h; cases h) (by rfl)
  · rfl
  · (try dsimp only [zS, zN, zH, zT]); try exact rfl
  apply al_stepN
  · exact op_assign_const (by rfl)
  · rfl
  · (try dsimp only [zS, zN, zH, zT]); try exact rfl
  apply al_end
  · (try dsimp only [zS, zN, zH, zT]); try exact rfl
  refine then_normal ?_
  refine aw_seq ?_
  refine aw_seq ?_
  refine aw_region ?_
  apply al_stepN
  · exact op_callF Try.func11 (by rfl) (by rfl) .nil (head_ok _)
  · rfl
  · (try dsimp only [zS, zN, zH, zT]); try exact rfl
  apply al_stepN
  · exact op_not (by rfl)
  · rfl
  · (try dsimp only [zS, zN, zH, zT]); try exact rfl
  apply al_end
  · (try dsimp only [zS, zN, zH, zT]); try exact rfl
  refine then_normal ?_
  refine aw_cond rfl (fun hc1 => ?_) (fun hc1 => ?_)
  · skip
    (try simp only [decide_eq_true_eq, decide_eq_false_iff_not, beq_iff_eq, beq_eq_false_iff_ne, Bool.not_eq_true', Bool.not_eq_false', bne_iff_ne, ne_eq, Decidable.not_not, bne_eq_false_iff_eq, List.length_map] at hc1)
    exact absurd hc1 (by decide)
  · skip
    (try simp only [decide_eq_true_eq, decide_eq_false_iff_not, beq_iff_eq, beq_eq_false_iff_ne, Bool.not_eq_true', Bool.not_eq_false', bne_iff_ne, ne_eq, Decidable.not_not, bne_eq_false_iff_eq, List.length_map] at hc1)
    refine aw_skip ?_
    refine then_normal ?_
    refine aw_seq ?_
    refine aw_seq ?_
    refine aw_region ?_
    apply al_stepN
    · exact op_load_ptrsD (vC a) Try.underlying49 (by rfl) Sz49 (by rfl) (push_ne push_at) (by show 0 + 6 ≤ ((vC a).map AV.d).length; rw [List.length_map, vC_len]; exact Nat.le_refl _) (by show (((vC a).map AV.d).drop 0).take 6 = _; rw [List.drop_zero, List.take_of_length_le (by rw [List.length_map, vC_len]; exact Nat.le_refl _)]) (vC_one a)
    · rfl
    · (try dsimp only [zS, zN, zH, zT]); try exact rfl
    apply al_stepN
    · exact op_callF Try.func22 (by rfl) (by rfl) (.tmp (by rfl) (.const (by rfl) .nil)) (few_ok 7 a (by decide) _)
    · rfl
    · (try dsimp only [zS, zN, zH, zT]); try exact rfl
    apply al_stepN
    · exact op_not (by rfl)
    · rfl
    · (try dsimp only [zS, zN, zH, zT]); try exact rfl
    apply al_stepN
    · exact op_move_tmp (by rfl)
    · rfl
    · (try dsimp only [zS, zN, zH, zT]); try exact rfl
    refine al_split 15 rfl (fun hg2 => ?_) (fun hg2 => ?_)
    · skip
      (try simp only [decide_eq_true_eq, decide_eq_false_iff_not, beq_iff_eq, beq_eq_false_iff_ne, Bool.not_eq_true', Bool.not_eq_false', bne_iff_ne, ne_eq, Decidable.not_not, bne_eq_false_iff_eq, List.length_map] at hg2)
      apply al_normT
      · (try dsimp only [zS, zN, zH, zT]); try exact rfl
      refine al_unwanted rfl rfl rfl rfl ?_
      apply al_normT
      · (try dsimp only [zS, zN, zH, zT]); try exact rfl
      refine al_unwanted rfl rfl rfl rfl ?_
      apply al_normT
      · (try dsimp only [zS, zN, zH, zT]); try exact rfl
      refine al_unwanted rfl rfl rfl rfl ?_
      apply al_normT
      · (try dsimp only [zS, zN, zH, zT]); try exact rfl
      apply al_stepN
      · exact op_pick_tt (by rfl) (val_const (by rfl))
      · rfl
      · (try dsimp only [zS, zN, zH, zT]); try exact rfl
      apply al_stepN
      · exact op_move_tmp (by rfl)
      · rfl
      · (try dsimp only [zS, zN, zH, zT]); try exact rfl
      refine al_unwanted rfl rfl rfl rfl ?_
      apply al_normT
      · (try dsimp only [zS, zN, zH, zT]); try exact rfl
      refine al_unwanted rfl rfl rfl rfl ?_
      apply al_normT
      · (try dsimp only [zS, zN, zH, zT]); try exact rfl
      refine al_unwanted rfl rfl rfl rfl ?_
      apply al_normT
      · (try dsimp only [zS, zN, zH, zT]); try exact rfl
      apply al_stepN
      · exact op_pick_tt (by rfl) (val_const (by rfl))
      · rfl
      · (try dsimp only [zS, zN, zH, zT]); try exact rfl
      apply al_end
      · (try dsimp only [zS, zN, zH, zT]); try exact rfl
      refine then_normal ?_
      refine aw_cond rfl (fun _ => ?_) (fun h => by cases h)
      refine aw_seq ?_
      refine aw_region ?_
      apply al_stepN
      · exact op_assign_const (by rfl)
      · rfl
      · (try dsimp only [zS, zN, zH, zT]); try exact rfl
      apply al_end
      · (try dsimp only [zS, zN, zH, zT]); try exact rfl
      refine then_normal ?_
      refine aw_ret ?_
      refine then_ret ?_
      refine retPost1 rfl rfl ?_
      first | exact rfl | (simp [TF]; done) | (rw [f2]; rfl) | (simp [TF, f2]; done) | (simpa [TF] using f2)
    · skip
      (try simp only [decide_eq_true_eq, decide_eq_false_iff_not, beq_iff_eq, beq_eq_false_iff_ne, Bool.not_eq_true', Bool.not_eq_false', bne_iff_ne, ne_eq, Decidable.not_not, bne_eq_false_iff_eq, List.length_map] at hg2)
      have fa : fewV 7 a = true := by simpa using hg2
      apply al_normT
      · (try dsimp only [zS, zN, zH, zT]); try exact rfl
      apply al_wantedN
      · rfl
      · rfl
      · rfl
      · exact op_load_ptrsD (vC b) Try.underlying49 (by rfl) Sz49 (by rfl) push_at (by show 0 + 6 ≤ ((vC b).map AV.d).length; rw [List.length_map, vC_len]; exact Nat.le_refl _) (by show (((vC b).map AV.d).drop 0).take 6 = _; rw [List.drop_zero, List.take_of_length_le (by rw [List.length_map, vC_len]; exact Nat.le_refl _)]) (vC_one b)
      · (try dsimp only [zS, zN, zH, zT]); try exact rfl
      apply al_wantedN
      · rfl
      · rfl
      · rfl
      · exact op_callF Try.func22 (by rfl) (by rfl) (.tmp (by rfl) (.const (by rfl) .nil)) (few_ok 7 b (by decide) _)
      · (try dsimp only [zS, zN, zH, zT]); try exact rfl
      apply al_wantedN
      · rfl
      · rfl
      · rfl
      · exact op_not (by rfl)
      · (try dsimp only [zS, zN, zH, zT]); try exact rfl
      apply al_stepN
      · exact op_pick_ff (by rfl) (val_tmp (by rfl))
      · rfl
      · (try dsimp only [zS, zN, zH, zT]); try exact rfl
      apply al_stepN
      · exact op_move_tmp (by rfl)
      · rfl
      · (try dsimp only [zS, zN, zH, zT]); try exact rfl
      refine al_split 20 rfl (fun hg4 => ?_) (fun hg4 => ?_)
      · skip
        (try simp only [decide_eq_true_eq, decide_eq_false_iff_not, beq_iff_eq, beq_eq_false_iff_ne, Bool.not_eq_true', Bool.not_eq_false', bne_iff_ne, ne_eq, Decidable.not_not, bne_eq_false_iff_eq, List.length_map] at hg4)
        apply al_normT
        · (try dsimp only [zS, zN, zH, zT]); try exact rfl
        refine al_unwanted rfl rfl rfl rfl ?_
        apply al_normT
        · (try dsimp only [zS, zN, zH, zT]); try exact rfl
        refine al_unwanted rfl rfl rfl rfl ?_
        apply al_normT
        · (try dsimp only [zS, zN, zH, zT]); try exact rfl
        refine al_unwanted rfl rfl rfl rfl ?_
        apply al_normT
        · (try dsimp only [zS, zN, zH, zT]); try exact rfl
        apply al_stepN
        · exact op_pick_tt (by rfl) (val_const (by rfl))
        · rfl
        · (try dsimp only [zS, zN, zH, zT]); try exact rfl
        apply al_end
        · (try dsimp only [zS, zN, zH, zT]); try exact rfl
        refine then_normal ?_
        refine aw_cond rfl (fun _ => ?_) (fun h => by cases h)
        refine aw_seq ?_
        refine aw_region ?_
        apply al_stepN
        · exact op_assign_const (by rfl)
        · rfl
        · (try dsimp only [zS, zN, zH, zT]); try exact rfl
        apply al_end
        · (try dsimp only [zS, zN, zH, zT]); try exact rfl
        refine then_normal ?_
        refine aw_ret ?_
        refine then_ret ?_
        refine retPost1 rfl rfl ?_
        first | exact rfl | (simp [TF]; done) | (rw [f2]; rfl) | (simp [TF, f2]; done) | (simpa [TF] using f2)
      · skip
        (try simp only [decide_eq_true_eq, decide_eq_false_iff_not, beq_iff_eq, beq_eq_false_iff_ne, Bool.not_eq_true', Bool.not_eq_false', bne_iff_ne, ne_eq, Decidable.not_not, bne_eq_false_iff_eq, List.length_map] at hg4)
        have fb : fewV 7 b = true := by simpa using hg4
        apply al_normT
        · (try dsimp only [zS, zN, zH, zT]); try exact rfl
        apply al_wantedN
        · rfl
        · rfl
        · rfl
        · exact op_move_tmp (by rfl)
        · (try dsimp only [zS, zN, zH, zT]); try exact rfl
        apply al_wantedN
        · rfl
        · rfl
        · rfl
        · exact op_lenL Try.underlying22 (by first | exact LL.d _ _ | exact LL.own _ _ _ | exact LL.nil _ | assumption)
        · (try dsimp only [zS, zN, zH, zT]); try exact rfl
        apply al_wantedN
        · rfl
        · rfl
        · rfl
        · exact op_gtI (by rfl) (by rfl)
        · (try dsimp only [zS, zN, zH, zT]); try exact rfl
        apply al_stepN
        · exact op_pick_ff (by rfl) (val_tmp (by rfl))
        · rfl
        · (try dsimp only [zS, zN, zH, zT]); try exact rfl
        apply al_end
        · (try dsimp only [zS, zN, zH, zT]); try exact rfl
        refine then_normal ?_
        refine aw_cond rfl (fun hc6 => ?_) (fun hc6 => ?_)
        · skip
          (try simp only [decide_eq_true_eq, decide_eq_false_iff_not, beq_iff_eq, beq_eq_false_iff_ne, Bool.not_eq_true', Bool.not_eq_false', bne_iff_ne, ne_eq, Decidable.not_not, bne_eq_false_iff_eq, List.length_map] at hc6)
          refine aw_seq ?_
          refine aw_region ?_
          apply al_stepN
          · exact op_assign_const (by rfl)
          · rfl
          · (try dsimp only [zS, zN, zH, zT]); try exact rfl
          apply al_end
          · (try dsimp only [zS, zN, zH, zT]); try exact rfl
          refine then_normal ?_
          refine aw_ret ?_
          refine then_ret ?_
          refine retPost1 rfl rfl ?_
          first | exact rfl | (simp [TF]; done) | (rw [f2]; rfl) | (simp [TF, f2]; done) | (simpa [TF] using f2)
        · skip
          (try simp only [decide_eq_true_eq, decide_eq_false_iff_not, beq_iff_eq, beq_eq_false_iff_ne, Bool.not_eq_true', Bool.not_eq_false', bne_iff_ne, ne_eq, Decidable.not_not, bne_eq_false_iff_eq, List.length_map] at hc6)
          obtain ⟨ra, sa, wa, _⟩ := law_parts fa va
          obtain ⟨rb, sb, wb, _⟩ := law_parts fb vb
          have oa := law_ord fa va
          have ob := law_ord fb vb
          have hsg : (if (if cmpV (lawR a) (lawR b) > -1 then cmpV (lawR a) (lawR b) else -1) < 1 then (if cmpV (lawR a) (lawR b) > -1 then cmpV (lawR a) (lawR b) else -1) else 1) = cmpV (lawR a) (lawR b) := by rcases cmp_vals ra rb wa wb with h | h | h <;> rw [h] <;> rfl
          have hbc : byL ([] ++ ordV (lawR a)) ([] ++ ordV (lawR b)) = (if (if cmpV (lawR a) (lawR b) > -1 then cmpV (lawR a) (lawR b) else -1) < 1 then (if cmpV (lawR a) (lawR b) > -1 then cmpV (lawR a) (lawR b) else -1) else 1) := by rw [hsg]; exact cmp_by ra rb wa wb []
          have hbg : begins ([] ++ ordV (lawR a)) [] = true := begins_self_app _ _
          refine aw_skip ?_
          refine then_normal ?_
          refine aw_seq ?_
          refine aw_region ?_
          apply al_stepN
          · exact op_load_ptrsD (vC a) Try.underlying49 (by rfl) Sz49 (by rfl) (push_ne push_at) (by show 0 + 6 ≤ ((vC a).map AV.d).length; rw [List.length_map, vC_len]; exact Nat.le_refl _) (by show (((vC a).map AV.d).drop 0).take 6 = _; rw [List.drop_zero, List.take_of_length_le (by rw [List.length_map, vC_len]; exact Nat.le_refl _)]) (vC_one a)
          · rfl
          · (try dsimp only [zS, zN, zH, zT]); try exact rfl
          apply al_stepN
          · exact op_callF Try.func23 (by rfl) (by rfl) (.tmp (by rfl) .nil) (lawR_all 7 a fa _)
          · rfl
          · (try dsimp only [zS, zN, zH, zT]); try exact rfl
          apply al_stepN
          · exact op_storeVV a (lawR a) Sz49 (by rfl) (push_ne push_at) (by rfl)
          · rfl
          · (try dsimp only [zS, zN, zH, zT]); try exact rfl
          apply al_end
          · (try dsimp only [zS, zN, zH, zT]); try exact rfl
          refine then_normal ?_
          apply aw_cutF (fun T H => ∃ (i0 : Nat) (i1 : Nat), T = (.un :: .un :: (.d (.lst 1 [])) :: (.ptr i0 0) :: (.ptr i1 0) :: .un :: .un :: .un :: .un :: .un :: .un :: .un :: .un :: .un :: .un :: .un :: .un :: .un :: .un :: .un :: .un :: .un :: .un :: .un :: .un :: .un :: .un :: .un :: .un :: .un :: .un :: .un :: .un :: .un :: .un :: .un :: .un :: .un :: .un :: .un :: .un :: .un :: .un :: .un :: .un :: .un :: .un :: .un :: .un :: .un :: .un :: .un :: .un :: .un :: .un :: .un :: .un :: .un :: .un :: .un :: .un :: .un :: .un :: .un :: .un :: .un :: .un :: .un :: .un :: .un :: .un :: []) ∧ H.blks[i0]? = some ⟨49, (vC (lawR a)).map .d, false⟩ ∧ H.blks[i1]? = some ⟨49, (vC (lawR b)).map .d, false⟩)
          · skip
            refine aw_region ?_
            apply al_stepN
            · exact op_load_ptrsD (vC b) Try.underlying49 (by rfl) Sz49 (by rfl) (by rw [setB_ne (by simp only [push_nb, ne_eq]; omega)]; exact push_at) (by show 0 + 6 ≤ ((vC b).map AV.d).length; rw [List.length_map, vC_len]; exact Nat.le_refl _) (by show (((vC b).map AV.d).drop 0).take 6 = _; rw [List.drop_zero, List.take_of_length_le (by rw [List.length_map, vC_len]; exact Nat.le_refl _)]) (vC_one b)
            · rfl
            · (try dsimp only [zS, zN, zH, zT]); try exact rfl
            apply al_stepN
            · exact op_callF Try.func23 (by rfl) (by rfl) (.tmp (by rfl) .nil) (lawR_all 7 b fb _)
            · rfl
            · (try dsimp only [zS, zN, zH, zT]); try exact rfl
            apply al_stepN
            · exact op_storeVV b (lawR b) Sz49 (by rfl) (by rw [setB_ne (by simp only [push_nb, ne_eq]; omega)]; exact push_at) (by rfl)
            · rfl
            · (try dsimp only [zS, zN, zH, zT]); try exact rfl
            apply al_end
            · (try dsimp only [zS, zN, zH, zT]); try exact rfl
            apply cut_to (false :: false :: true :: true :: true :: false :: false :: false :: false :: false :: false :: false :: false :: false :: false :: false :: false :: false :: false :: false :: false :: false :: false :: false :: false :: false :: false :: false :: false :: false :: false :: false :: false :: false :: false :: false :: false :: false :: false :: false :: false :: false :: false :: false :: false :: false :: false :: false :: false :: false :: false :: false :: false :: false :: false :: false :: false :: false :: false :: false :: false :: false :: false :: false :: false :: false :: false :: false :: false :: false :: false :: [])
            · (try dsimp only [maskT]); try exact rfl
            · rfl
            exact ⟨_, _, rfl, (by rw [setB_ne (by simp only [push_nb, ne_eq]; omega)]; exact setB_at (push_ne push_at)), (setB_at (by rw [setB_ne (by simp only [push_nb, ne_eq]; omega)]; exact push_at))⟩
          rintro T H ⟨i0, i1, rfl, e0, e1⟩
          refine aw_seq ?_
          refine aw_drawX (fun K => K.blks[i0]? = some ⟨49, (vC (lawR a)).map .d, false⟩) [0, 0, 2, 0, 2, 0, 0] mixed (by kernel_rfl) (e0) (.inr (by kernel_rfl)) ?_
          apply drun0X
          · intro H hPhi; exact op_lit Try.underlying22 ZS5 (.nil _) (by rfl) (by simp [BY, S, I, TF, DV.cells]) (by simp [flat, BY, S, I, TF, DV.cells, DV.one]) (by decide)
          · rfl
          apply drun_normT
          · (try dsimp only [zS, zN, zH, zT]); try exact rfl
          apply drun0X
          · intro H hPhi; exact op_move_tmp (by rfl)
          · rfl
          apply drun_normT
          · (try dsimp only [zS, zN, zH, zT]); try exact rfl
          apply drun2X
          · exact op_append0 Try.underlying22 Inf5 (LL.own _ _ _) (.list _ _ _ _ Try.underlying22 (LL.d _ _))
          · rfl
          · refine .inr ?_; (first | exact e0 | (simp only [HS.up_blks]; exact e0))
          apply drun_normT
          · (try dsimp only [zS, zN, zH, zT]); try exact rfl
          apply drun0X
          · intro H hPhi; exact op_load_ptrsD (vC (lawR a)) Try.underlying49 (by rfl) Sz49 (by rfl) hPhi (by show 0 + 6 ≤ ((vC (lawR a)).map AV.d).length; rw [List.length_map, vC_len]; exact Nat.le_refl _) (by show (((vC (lawR a)).map AV.d).drop 0).take 6 = _; rw [List.drop_zero, List.take_of_length_le (by rw [List.length_map, vC_len]; exact Nat.le_refl _)]) (vC_one (lawR a))
          · rfl
          apply drun_normT
          · (try dsimp only [zS, zN, zH, zT]); try exact rfl
          apply drun2X
          · exact op_callF Try.func24 (by rfl) (by rfl) (.tmp (by rfl) (.tmp (by rfl) .nil)) (ordV_ok 32 (lawR a) ra wa _ none _ [] (App.own _ _ _) (HS.ok_none _ _) (by simp; omega))
          · rfl
          · refine .inr ?_; (first | exact e0 | (simp only [HS.up_blks]; exact e0))
          apply drun_normT
          · (try dsimp only [zS, zN, zH, zT]); try exact rfl
          apply drun0X
          · intro H hPhi; exact op_string Try.underlying22 Try.underlying9 Try.underlying5 (by first | exact LL.d _ _ | exact LL.own _ _ _ | exact LL.nil _ | assumption) (by rfl)
          · rfl
          apply drun_normT
          · (try dsimp only [zS, zN, zH, zT]); try exact rfl
          apply drun0X
          · intro H hPhi; exact op_assign_tmp (by rfl)
          · rfl
          apply drun_normT
          · (try dsimp only [zS, zN, zH, zT]); try exact rfl
          apply drun_end
          · (try dsimp only [zS, zN, zH, zT]); try exact rfl
          refine then_normal ?_
          refine aw_seq ?_
          refine aw_drawX (fun K => K.blks[i1]? = some ⟨49, (vC (lawR b)).map .d, false⟩) [0, 0, 2, 0, 2, 0, 0] mixed (by kernel_rfl) ((by first | exact e1 | (simp only [HS.up_blks]; exact e1))) (.inr (by kernel_rfl)) ?_
          apply drun0X
          · intro H hPhi; exact op_lit Try.underlying22 ZS5 (.nil _) (by rfl) (by simp [BY, S, I, TF, DV.cells]) (by simp [flat, BY, S, I, TF, DV.cells, DV.one]) (by decide)
          · rfl
          apply drun_normT
          · (try dsimp only [zS, zN, zH, zT]); try exact rfl
          apply drun0X
          · intro H hPhi; exact op_move_tmp (by rfl)
          · rfl
          apply drun_normT
          · (try dsimp only [zS, zN, zH, zT]); try exact rfl
          apply drun2X
          · exact op_append0 Try.underlying22 Inf5 (LL.own _ _ _) (.list _ _ _ _ Try.underlying22 (LL.d _ _))
          · rfl
          · refine .inr ?_; (first | exact e1 | (simp only [HS.up_blks]; exact e1))
          apply drun_normT
          · (try dsimp only [zS, zN, zH, zT]); try exact rfl
          apply drun0X
          · intro H hPhi; exact op_load_ptrsD (vC (lawR b)) Try.underlying49 (by rfl) Sz49 (by rfl) hPhi (by show 0 + 6 ≤ ((vC (lawR b)).map AV.d).length; rw [List.length_map, vC_len]; exact Nat.le_refl _) (by show (((vC (lawR b)).map AV.d).drop 0).take 6 = _; rw [List.drop_zero, List.take_of_length_le (by rw [List.length_map, vC_len]; exact Nat.le_refl _)]) (vC_one (lawR b))
          · rfl
          apply drun_normT
          · (try dsimp only [zS, zN, zH, zT]); try exact rfl
          apply drun2X
          · exact op_callF Try.func24 (by rfl) (by rfl) (.tmp (by rfl) (.tmp (by rfl) .nil)) (ordV_ok 32 (lawR b) rb wb _ none _ [] (App.own _ _ _) (HS.ok_none _ _) (by simp; omega))
          · rfl
          · refine .inr ?_; (first | exact e1 | (simp only [HS.up_blks]; exact e1))
          apply drun_normT
          · (try dsimp only [zS, zN, zH, zT]); try exact rfl
          apply drun0X
          · intro H hPhi; exact op_string Try.underlying22 Try.underlying9 Try.underlying5 (by first | exact LL.d _ _ | exact LL.own _ _ _ | exact LL.nil _ | assumption) (by rfl)
          · rfl
          apply drun_normT
          · (try dsimp only [zS, zN, zH, zT]); try exact rfl
          apply drun0X
          · intro H hPhi; exact op_assign_tmp (by rfl)
          · rfl
          apply drun_normT
          · (try dsimp only [zS, zN, zH, zT]); try exact rfl
          apply drun_end
          · (try dsimp only [zS, zN, zH, zT]); try exact rfl
          refine then_normal ?_
          refine aw_seq ?_
          refine aw_region ?_
          apply al_stepN
          · exact op_load_ptrsD (vC (lawR a)) Try.underlying49 (by rfl) Sz49 (by rfl) (by first | exact e0 | (simp only [HS.up_blks]; exact e0)) (by show 0 + 6 ≤ ((vC (lawR a)).map AV.d).length; rw [List.length_map, vC_len]; exact Nat.le_refl _) (by show (((vC (lawR a)).map AV.d).drop 0).take 6 = _; rw [List.drop_zero, List.take_of_length_le (by rw [List.length_map, vC_len]; exact Nat.le_refl _)]) (vC_one (lawR a))
          · rfl
          · (try dsimp only [zS, zN, zH, zT]); try exact rfl
          apply al_stepN
          · exact op_load_ptrsD (vC (lawR b)) Try.underlying49 (by rfl) Sz49 (by rfl) (by first | exact e1 | (simp only [HS.up_blks]; exact e1)) (by show 0 + 6 ≤ ((vC (lawR b)).map AV.d).length; rw [List.length_map, vC_len]; exact Nat.le_refl _) (by show (((vC (lawR b)).map AV.d).drop 0).take 6 = _; rw [List.drop_zero, List.take_of_length_le (by rw [List.length_map, vC_len]; exact Nat.le_refl _)]) (vC_one (lawR b))
          · rfl
          · (try dsimp only [zS, zN, zH, zT]); try exact rfl
          apply al_stepN
          · exact op_callF Try.func25 (by rfl) (by rfl) (.tmp (by rfl) (.tmp (by rfl) .nil)) (cmp_ok _ (lawR a) (lawR b) sa sb)
          · rfl
          · (try dsimp only [zS, zN, zH, zT]); try exact rfl
          apply al_stepN
          · exact op_callF Try.func19 (by rfl) (by rfl) (.tmp (by rfl) .nil) (sign_ok _ _)
          · rfl
          · (try dsimp only [zS, zN, zH, zT]); try exact rfl
          apply al_stepN
          · exact op_assign_tmp (by rfl)
          · rfl
          · (try dsimp only [zS, zN, zH, zT]); try exact rfl
          apply al_end
          · (try dsimp only [zS, zN, zH, zT]); try exact rfl
          refine then_normal ?_
          refine aw_seq ?_
          refine aw_seq ?_
          refine aw_region ?_
          apply al_stepN
          · exact op_move_tmp (by rfl)
          · rfl
          · (try dsimp only [zS, zN, zH, zT]); try exact rfl
          apply al_stepN
          · exact op_move_tmp (by rfl)
          · rfl
          · (try dsimp only [zS, zN, zH, zT]); try exact rfl
          apply al_stepN
          · exact op_string Try.underlying22 Try.underlying9 Try.underlying5 (LL.d _ _) (l := []) (by rfl)
          · rfl
          · (try dsimp only [zS, zN, zH, zT]); try exact rfl
          apply al_stepN
          · exact op_callF Try.func16 (by rfl) (by rfl) (.tmp (by rfl) (.tmp (by rfl) .nil)) (begins_ok _ _ _)
          · rfl
          · (try dsimp only [zS, zN, zH, zT]); try exact rfl
          apply al_stepN
          · exact op_not (by rfl)
          · rfl
          · (try dsimp only [zS, zN, zH, zT]); try exact rfl
          apply al_stepN
          · exact op_move_tmp (by rfl)
          · rfl
          · (try dsimp only [zS, zN, zH, zT]); try exact rfl
          refine al_split 50 rfl (fun hg7 => ?_) (fun hg7 => ?_)
          · skip
            (try simp only [decide_eq_true_eq, decide_eq_false_iff_not, beq_iff_eq, beq_eq_false_iff_ne, Bool.not_eq_true', Bool.not_eq_false', bne_iff_ne, ne_eq, Decidable.not_not, bne_eq_false_iff_eq, List.length_map] at hg7)
            apply al_normT
            · (try dsimp only [zS, zN, zH, zT]); try exact rfl
            rw [hbg] at hg7; cases hg7
          · skip
            (try simp only [decide_eq_true_eq, decide_eq_false_iff_not, beq_iff_eq, beq_eq_false_iff_ne, Bool.not_eq_true', Bool.not_eq_false', bne_iff_ne, ne_eq, Decidable.not_not, bne_eq_false_iff_eq, List.length_map] at hg7)
            apply al_normT
            · (try dsimp only [zS, zN, zH, zT]); try exact rfl
            apply al_wantedN
            · rfl
            · rfl
            · rfl
            · exact op_move_tmp (by rfl)
            · (try dsimp only [zS, zN, zH, zT]); try exact rfl
            apply al_wantedN
            · rfl
            · rfl
            · rfl
            · exact op_move_tmp (by rfl)
            · (try dsimp only [zS, zN, zH, zT]); try exact rfl
            apply al_wantedN
            · rfl
            · rfl
            · rfl
            · exact op_callF Try.func13 (by rfl) (by rfl) (.tmp (by rfl) (.tmp (by rfl) .nil)) (by_ok _ _ _)
            · (try dsimp only [zS, zN, zH, zT]); try exact rfl
            apply al_wantedN
            · rfl
            · rfl
            · rfl
            · exact op_move_tmp (by rfl)
            · (try dsimp only [zS, zN, zH, zT]); try exact rfl
            apply al_wantedN
            · rfl
            · rfl
            · rfl
            · exact op_neI (by rfl) (by rfl)
            · (try dsimp only [zS, zN, zH, zT]); try exact rfl
            apply al_stepN
            · exact op_pick_ff (by rfl) (val_tmp (by rfl))
            · rfl
            · (try dsimp only [zS, zN, zH, zT]); try exact rfl
            apply al_end
            · (try dsimp only [zS, zN, zH, zT]); try exact rfl
            refine then_normal ?_
            refine aw_cond rfl (fun hc8 => ?_) (fun hc8 => ?_)
            · skip
              (try simp only [decide_eq_true_eq, decide_eq_false_iff_not, beq_iff_eq, beq_eq_false_iff_ne, Bool.not_eq_true', Bool.not_eq_false', bne_iff_ne, ne_eq, Decidable.not_not, bne_eq_false_iff_eq, List.length_map] at hc8)
              exact absurd hbc hc8
            · skip
              (try simp only [decide_eq_true_eq, decide_eq_false_iff_not, beq_iff_eq, beq_eq_false_iff_ne, Bool.not_eq_true', Bool.not_eq_false', bne_iff_ne, ne_eq, Decidable.not_not, bne_eq_false_iff_eq, List.length_map] at hc8)
              refine aw_skip ?_
              refine then_normal ?_
              refine aw_seq ?_
              refine aw_region ?_
              apply al_stepN
              · exact op_move_tmp (by rfl)
              · rfl
              · (try dsimp only [zS, zN, zH, zT]); try exact rfl
              apply al_stepN
              · exact op_eqI (by rfl) (by rfl)
              · rfl
              · (try dsimp only [zS, zN, zH, zT]); try exact rfl
              apply al_stepN
              · exact op_move_tmp (by rfl)
              · rfl
              · (try dsimp only [zS, zN, zH, zT]); try exact rfl
              refine al_split 59 rfl (fun hg9 => ?_) (fun hg9 => ?_)
              · skip
                (try simp only [decide_eq_true_eq, decide_eq_false_iff_not, beq_iff_eq, beq_eq_false_iff_ne, Bool.not_eq_true', Bool.not_eq_false', bne_iff_ne, ne_eq, Decidable.not_not, bne_eq_false_iff_eq, List.length_map] at hg9)
                apply al_normT
                · (try dsimp only [zS, zN, zH, zT]); try exact rfl
                refine al_unwanted rfl rfl rfl rfl ?_
                apply al_normT
                · (try dsimp only [zS, zN, zH, zT]); try exact rfl
                refine al_unwanted rfl rfl rfl rfl ?_
                apply al_normT
                · (try dsimp only [zS, zN, zH, zT]); try exact rfl
                refine al_unwanted rfl rfl rfl rfl ?_
                apply al_normT
                · (try dsimp only [zS, zN, zH, zT]); try exact rfl
                refine al_unwanted rfl rfl rfl rfl ?_
                apply al_normT
                · (try dsimp only [zS, zN, zH, zT]); try exact rfl
                refine al_unwanted rfl rfl rfl rfl ?_
                apply al_normT
                · (try dsimp only [zS, zN, zH, zT]); try exact rfl
                refine al_unwanted0 rfl rfl rfl ?_
                apply al_normT
                · (try dsimp only [zS, zN, zH, zT]); try exact rfl
                refine al_unwanted0 rfl rfl rfl ?_
                apply al_normT
                · (try dsimp only [zS, zN, zH, zT]); try exact rfl
                refine al_unwanted0 rfl rfl rfl ?_
                apply al_normT
                · (try dsimp only [zS, zN, zH, zT]); try exact rfl
                refine al_unwanted0 rfl rfl rfl ?_
                apply al_normT
                · (try dsimp only [zS, zN, zH, zT]); try exact rfl
                refine al_unwanted rfl rfl rfl rfl ?_
                apply al_normT
                · (try dsimp only [zS, zN, zH, zT]); try exact rfl
                apply al_stepN
                · exact op_pick_tt (by rfl) (val_const (by rfl))
                · rfl
                · (try dsimp only [zS, zN, zH, zT]); try exact rfl
                apply al_stepN
                · exact op_assign_tmp (by rfl)
                · rfl
                · (try dsimp only [zS, zN, zH, zT]); try exact rfl
                apply al_end
                · (try dsimp only [zS, zN, zH, zT]); try exact rfl
                refine then_normal ?_
                refine aw_ret ?_
                refine retPost1 rfl rfl ?_
                first | exact rfl | (simp [TF]; done) | (rw [f2]; rfl) | (simp [TF, f2]; done) | (simpa [TF] using f2)
              · skip
                (try simp only [decide_eq_true_eq, decide_eq_false_iff_not, beq_iff_eq, beq_eq_false_iff_ne, Bool.not_eq_true', Bool.not_eq_false', bne_iff_ne, ne_eq, Decidable.not_not, bne_eq_false_iff_eq, List.length_map] at hg9)
                have hz : ¬ cmpV (lawR a) (lawR b) = 0 := by rw [← hsg]; exact hg9
                have f1 := ord_apart ra rb wa wb hz []
                have f2 := ord_apart rb ra wb wa (by rw [cmp_neg ra rb wa wb]; omega) []
                apply al_normT
                · (try dsimp only [zS, zN, zH, zT]); try exact rfl
                apply al_wantedN
                · rfl
                · rfl
                · rfl
                · exact op_move_tmp (by rfl)
                · (try dsimp only [zS, zN, zH, zT]); try exact rfl
                apply al_wantedN
                · rfl
                · rfl
                · rfl
                · exact op_move_tmp (by rfl)
                · (try dsimp only [zS, zN, zH, zT]); try exact rfl
                apply al_wantedN
                · rfl
                · rfl
                · rfl
                · exact op_callF Try.func16 (by rfl) (by rfl) (.tmp (by rfl) (.tmp (by rfl) .nil)) (begins_ok _ _ _)
                · (try dsimp only [zS, zN, zH, zT]); try exact rfl
                apply al_wantedN
                · rfl
                · rfl
                · rfl
                · exact op_not (by rfl)
                · (try dsimp only [zS, zN, zH, zT]); try exact rfl
                apply al_wantedN
                · rfl
                · rfl
                · rfl
                · exact op_move_tmp (by rfl)
                · (try dsimp only [zS, zN, zH, zT]); try exact rfl
                refine al_split 64 rfl (fun hg10 => ?_) (fun hg10 => ?_)
                · skip
                  (try simp only [decide_eq_true_eq, decide_eq_false_iff_not, beq_iff_eq, beq_eq_false_iff_ne, Bool.not_eq_true', Bool.not_eq_false', bne_iff_ne, ne_eq, Decidable.not_not, bne_eq_false_iff_eq, List.length_map] at hg10)
                  apply al_normT
                  · (try dsimp only [zS, zN, zH, zT]); try exact rfl
                  apply al_wantedN
                  · rfl
                  · rfl
                  · rfl
                  · exact op_move_tmp (by rfl)
                  · (try dsimp only [zS, zN, zH, zT]); try exact rfl
                  apply al_wantedN
                  · rfl
                  · rfl
                  · rfl
                  · exact op_move_tmp (by rfl)
                  · (try dsimp only [zS, zN, zH, zT]); try exact rfl
                  apply al_wantedN
                  · rfl
                  · rfl
                  · rfl
                  · exact op_callF Try.func16 (by rfl) (by rfl) (.tmp (by rfl) (.tmp (by rfl) .nil)) (begins_ok _ _ _)
                  · (try dsimp only [zS, zN, zH, zT]); try exact rfl
                  apply al_wantedN
                  · rfl
                  · rfl
                  · rfl
                  · exact op_not (by rfl)
                  · (try dsimp only [zS, zN, zH, zT]); try exact rfl
                  apply al_wantedN
                  · rfl
                  · rfl
                  · rfl
                  · exact op_pick_tt (by rfl) (val_tmp (by rfl))
                  · (try dsimp only [zS, zN, zH, zT]); try exact rfl
                  apply al_stepN
                  · exact op_pick_ff (by rfl) (val_tmp (by rfl))
                  · rfl
                  · (try dsimp only [zS, zN, zH, zT]); try exact rfl
                  apply al_stepN
                  · exact op_assign_tmp (by rfl)
                  · rfl
                  · (try dsimp only [zS, zN, zH, zT]); try exact rfl
                  apply al_end
                  · (try dsimp only [zS, zN, zH, zT]); try exact rfl
                  refine then_normal ?_
                  refine aw_ret ?_
                  refine retPost1 rfl rfl ?_
                  first | exact rfl | (simp [TF]; done) | (rw [f2]; rfl) | (simp [TF, f2]; done) | (simpa [TF] using f2)
                · skip
                  (try simp only [decide_eq_true_eq, decide_eq_false_iff_not, beq_iff_eq, beq_eq_false_iff_ne, Bool.not_eq_true', Bool.not_eq_false', bne_iff_ne, ne_eq, Decidable.not_not, bne_eq_false_iff_eq, List.length_map] at hg10)
                  apply al_normT
                  · (try dsimp only [zS, zN, zH, zT]); try exact rfl
                  rw [f1] at hg10; cases hg10
end Go.Proofs.Ytlphmahlchgafaa
