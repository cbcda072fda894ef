/- What the law ValOrders comes to. -/
import Derived.Test.YtadkehaagkjbhaaValU
import Derived.Test.YtadkehaagkjbhaaValLf
import Derived.Test.YtadkehaagkjbhaaValRt
import Derived.Test.YtadkehaagkjbhaaValOl
import Derived.Test.YtadkehaagkjbhaaArgVal
import Derived.KernelRfl
namespace Go.Proofs.Ytadkehaagkjbhaa
open Go.AV Go.AV.Ord Go.AV.Oct Go.AV.Val
set_option linter.unusedVariables false
set_option linter.unusedSimpArgs false
theorem vtypes : VTypes Try.prog 37 89 33 4 2 9 34 35 where
  v := ⟨_, Try.underlying37, ⟨_, rfl, rfl, rfl⟩, ⟨_, rfl, rfl, rfl⟩, ⟨_, rfl, rfl, rfl⟩, ⟨_, rfl, rfl, rfl⟩, ⟨_, rfl, rfl, rfl⟩, ⟨_, rfl, rfl, rfl⟩, rfl⟩
  f := ⟨_, Try.underlying89, ⟨_, rfl, rfl, rfl⟩, ⟨_, rfl, rfl, rfl⟩, rfl⟩
  k := Try.underlying33
  b := Try.underlying4
  i := Try.underlying2
  s := Try.underlying9
  l := Try.underlying34
  m := Try.underlying35
  cV := by kernel_rfl
  cF := by kernel_rfl
  cK := by kernel_rfl
  cB := by kernel_rfl
  cI := by kernel_rfl
  cS := by kernel_rfl
  cL := by kernel_rfl
  cM := by kernel_rfl
/- Less, the same, or greater. -/
set_option maxRecDepth 100000 in
theorem vsign_ok (Hs : HS) (n : Int) : ACalls Try.prog 51 [.d (I n)] Hs (Ret (.d (I (sgn n))) Hs) := by
  refine acalls_of_aw Try.func51 rfl ?_
  refine aw_start (T' := [.d (I n), .un, .un, .un, .un, .un]) rfl ?_
  refine aw_seq ?_
  refine aw_region ?_
  apply al_stepN
  · exact op_assign_const (by rfl)
  · rfl
  · (try dsimp only [zS, zN, zH, zT]); try exact rfl
  apply al_end
  · (try dsimp only [zS, zN, zH, zT]); try exact rfl
  refine then_normal ?_
  refine aw_seq ?_
  refine aw_region ?_
  apply al_stepN
  · exact op_move_tmp (by rfl)
  · rfl
  · (try dsimp only [zS, zN, zH, zT]); try exact rfl
  apply al_stepN
  · exact op_max (by rfl) (by rfl)
  · rfl
  · (try dsimp only [zS, zN, zH, zT]); try exact rfl
  apply al_stepN
  · exact op_min (by rfl) (by rfl)
  · rfl
  · (try dsimp only [zS, zN, zH, zT]); try exact rfl
  apply al_stepN
  · exact op_assign_tmp (by rfl)
  · rfl
  · (try dsimp only [zS, zN, zH, zT]); try exact rfl
  apply al_end
  · (try dsimp only [zS, zN, zH, zT]); try exact rfl
  refine then_normal ?_
  refine aw_ret ?_
  refine retPost1 rfl rfl ?_
  exact ⟨rfl, rfl⟩
set_option maxHeartbeats 1000000 in
set_option maxRecDepth 100000 in
theorem valOrders_walk (Hs : HS) (a b c : V) (va : WfV a) (vb : WfV b) (vc : WfV c) : ACalls Try.prog 12 [.d (.agg (vC a)), .d (.agg (vC b)), .d (.agg (vC c))] Hs (fun av _ => av = .d (TF true)) := by
  refine acalls_of_aw Try.func12 rfl ?_
  refine aw_start (T' := ((.d (.agg (vC a))) :: (.d (.agg (vC b))) :: (.d (.agg (vC c))) :: .un :: .un :: .un :: .un :: .un :: .un :: .un :: .un :: .un :: .un :: .un :: .un :: .un :: .un :: .un :: .un :: .un :: .un :: .un :: .un :: .un :: .un :: .un :: .un :: .un :: .un :: .un :: .un :: .un :: .un :: .un :: .un :: .un :: .un :: .un :: .un :: .un :: .un :: .un :: .un :: .un :: .un :: .un :: .un :: .un :: .un :: .un :: .un :: .un :: .un :: .un :: .un :: .un :: .un :: .un :: .un :: .un :: .un :: .un :: .un :: .un :: .un :: .un :: .un :: .un :: .un :: .un :: .un :: .un :: .un :: .un :: .un :: .un :: .un :: .un :: .un :: .un :: .un :: .un :: .un :: .un :: [])) rfl ?_
  refine aw_seq ?_
  refine aw_region ?_
  apply al_stepN
  · exact op_box_ptr (cs := (vC a).map .d) (by intro h; cases h) (by rfl)
  · rfl
  · (try dsimp only [zS, zN, zH, zT]); try exact rfl
  apply al_stepN
  · exact op_box_ptr (cs := (vC b).map .d) (by intro h; cases h) (by rfl)
  · rfl
  · (try dsimp only [zS, zN, zH, zT]); try exact rfl
  apply al_stepN
  · exact op_box_ptr (cs := (vC c).map .d) (by intro h; cases h) (by rfl)
  · rfl
  · (try dsimp only [zS, zN, zH, zT]); try exact rfl
  apply al_stepN
  · exact op_assign_const (by rfl)
  · rfl
  · (try dsimp only [zS, zN, zH, zT]); try exact rfl
  apply al_end
  · (try dsimp only [zS, zN, zH, zT]); try exact rfl
  refine then_normal ?_
  refine aw_seq ?_
  refine aw_seq ?_
  refine aw_region ?_
  apply al_stepN
  · exact op_callF Try.func40 (by rfl) (by rfl) .nil (vhead_ok _)
  · rfl
  · (try dsimp only [zS, zN, zH, zT]); try exact rfl
  apply al_stepN
  · exact op_not (by rfl)
  · rfl
  · (try dsimp only [zS, zN, zH, zT]); try exact rfl
  apply al_end
  · (try dsimp only [zS, zN, zH, zT]); try exact rfl
  refine then_normal ?_
  refine aw_cond rfl (fun hc1 => ?_) (fun hc1 => ?_)
  · skip
    (try simp only [decide_eq_true_eq, decide_eq_false_iff_not, beq_iff_eq, beq_eq_false_iff_ne, Bool.not_eq_true', Bool.not_eq_false', bne_iff_ne, ne_eq, Decidable.not_not, bne_eq_false_iff_eq, List.length_map] at hc1)
    exact absurd hc1 (by decide)
  · skip
    (try simp only [decide_eq_true_eq, decide_eq_false_iff_not, beq_iff_eq, beq_eq_false_iff_ne, Bool.not_eq_true', Bool.not_eq_false', bne_iff_ne, ne_eq, Decidable.not_not, bne_eq_false_iff_eq, List.length_map] at hc1)
    refine aw_skip ?_
    refine then_normal ?_
    refine aw_seq ?_
    refine aw_seq ?_
    refine aw_region ?_
    apply al_stepN
    · exact op_load_ptrsD (vC a) Try.underlying37 (by rfl) Sz37 (by rfl) (push_ne (push_ne push_at)) (by show 0 + 6 ≤ ((vC a).map AV.d).length; rw [List.length_map, vC_len]; exact Nat.le_refl _) (by show (((vC a).map AV.d).drop 0).take 6 = _; rw [List.drop_zero, List.take_of_length_le (by rw [List.length_map, vC_len]; exact Nat.le_refl _)]) (vC_one a)
    · rfl
    · (try dsimp only [zS, zN, zH, zT]); try exact rfl
    apply al_stepN
    · exact op_callF Try.func20 (by rfl) (by rfl) (.tmp (by rfl) (.const (by rfl) .nil)) (few_ok 7 a (by decide) _)
    · rfl
    · (try dsimp only [zS, zN, zH, zT]); try exact rfl
    apply al_stepN
    · exact op_not (by rfl)
    · rfl
    · (try dsimp only [zS, zN, zH, zT]); try exact rfl
    apply al_stepN
    · exact op_move_tmp (by rfl)
    · rfl
    · (try dsimp only [zS, zN, zH, zT]); try exact rfl
    refine al_split 16 rfl (fun hg2 => ?_) (fun hg2 => ?_)
    · skip
      (try simp only [decide_eq_true_eq, decide_eq_false_iff_not, beq_iff_eq, beq_eq_false_iff_ne, Bool.not_eq_true', Bool.not_eq_false', bne_iff_ne, ne_eq, Decidable.not_not, bne_eq_false_iff_eq, List.length_map] at hg2)
      apply al_normT
      · (try dsimp only [zS, zN, zH, zT]); try exact rfl
      refine al_unwanted rfl rfl rfl rfl ?_
      apply al_normT
      · (try dsimp only [zS, zN, zH, zT]); try exact rfl
      refine al_unwanted rfl rfl rfl rfl ?_
      apply al_normT
      · (try dsimp only [zS, zN, zH, zT]); try exact rfl
      refine al_unwanted rfl rfl rfl rfl ?_
      apply al_normT
      · (try dsimp only [zS, zN, zH, zT]); try exact rfl
      apply al_stepN
      · exact op_pick_tt (by rfl) (val_const (by rfl))
      · rfl
      · (try dsimp only [zS, zN, zH, zT]); try exact rfl
      apply al_stepN
      · exact op_move_tmp (by rfl)
      · rfl
      · (try dsimp only [zS, zN, zH, zT]); try exact rfl
      refine al_unwanted rfl rfl rfl rfl ?_
      apply al_normT
      · (try dsimp only [zS, zN, zH, zT]); try exact rfl
      refine al_unwanted rfl rfl rfl rfl ?_
      apply al_normT
      · (try dsimp only [zS, zN, zH, zT]); try exact rfl
      refine al_unwanted rfl rfl rfl rfl ?_
      apply al_normT
      · (try dsimp only [zS, zN, zH, zT]); try exact rfl
      apply al_stepN
      · exact op_pick_tt (by rfl) (val_const (by rfl))
      · rfl
      · (try dsimp only [zS, zN, zH, zT]); try exact rfl
      apply al_end
      · (try dsimp only [zS, zN, zH, zT]); try exact rfl
      refine then_normal ?_
      refine aw_cond rfl (fun _ => ?_) (fun h => by cases h)
      refine aw_seq ?_
      refine aw_region ?_
      apply al_stepN
      · exact op_assign_const (by rfl)
      · rfl
      · (try dsimp only [zS, zN, zH, zT]); try exact rfl
      apply al_end
      · (try dsimp only [zS, zN, zH, zT]); try exact rfl
      refine then_normal ?_
      refine aw_ret ?_
      refine then_ret ?_
      refine retPost1 rfl rfl ?_
      first | exact rfl | (rw [sac, sab, htr]; simp [TF]; done) | (simp [TF]; done)
    · skip
      (try simp only [decide_eq_true_eq, decide_eq_false_iff_not, beq_iff_eq, beq_eq_false_iff_ne, Bool.not_eq_true', Bool.not_eq_false', bne_iff_ne, ne_eq, Decidable.not_not, bne_eq_false_iff_eq, List.length_map] at hg2)
      have fa : fewV 7 a = true := by simpa using hg2
      apply al_normT
      · (try dsimp only [zS, zN, zH, zT]); try exact rfl
      apply al_wantedN
      · rfl
      · rfl
      · rfl
      · exact op_load_ptrsD (vC b) Try.underlying37 (by rfl) Sz37 (by rfl) (push_ne push_at) (by show 0 + 6 ≤ ((vC b).map AV.d).length; rw [List.length_map, vC_len]; exact Nat.le_refl _) (by show (((vC b).map AV.d).drop 0).take 6 = _; rw [List.drop_zero, List.take_of_length_le (by rw [List.length_map, vC_len]; exact Nat.le_refl _)]) (vC_one b)
      · (try dsimp only [zS, zN, zH, zT]); try exact rfl
      apply al_wantedN
      · rfl
      · rfl
      · rfl
      · exact op_callF Try.func20 (by rfl) (by rfl) (.tmp (by rfl) (.const (by rfl) .nil)) (few_ok 7 b (by decide) _)
      · (try dsimp only [zS, zN, zH, zT]); try exact rfl
      apply al_wantedN
      · rfl
      · rfl
      · rfl
      · exact op_not (by rfl)
      · (try dsimp only [zS, zN, zH, zT]); try exact rfl
      apply al_stepN
      · exact op_pick_ff (by rfl) (val_tmp (by rfl))
      · rfl
      · (try dsimp only [zS, zN, zH, zT]); try exact rfl
      apply al_stepN
      · exact op_move_tmp (by rfl)
      · rfl
      · (try dsimp only [zS, zN, zH, zT]); try exact rfl
      refine al_split 21 rfl (fun hg4 => ?_) (fun hg4 => ?_)
      · skip
        (try simp only [decide_eq_true_eq, decide_eq_false_iff_not, beq_iff_eq, beq_eq_false_iff_ne, Bool.not_eq_true', Bool.not_eq_false', bne_iff_ne, ne_eq, Decidable.not_not, bne_eq_false_iff_eq, List.length_map] at hg4)
        apply al_normT
        · (try dsimp only [zS, zN, zH, zT]); try exact rfl
        refine al_unwanted rfl rfl rfl rfl ?_
        apply al_normT
        · (try dsimp only [zS, zN, zH, zT]); try exact rfl
        refine al_unwanted rfl rfl rfl rfl ?_
        apply al_normT
        · (try dsimp only [zS, zN, zH, zT]); try exact rfl
        refine al_unwanted rfl rfl rfl rfl ?_
        apply al_normT
        · (try dsimp only [zS, zN, zH, zT]); try exact rfl
        apply al_stepN
        · exact op_pick_tt (by rfl) (val_const (by rfl))
        · rfl
        · (try dsimp only [zS, zN, zH, zT]); try exact rfl
        apply al_end
        · (try dsimp only [zS, zN, zH, zT]); try exact rfl
        refine then_normal ?_
        refine aw_cond rfl (fun _ => ?_) (fun h => by cases h)
        refine aw_seq ?_
        refine aw_region ?_
        apply al_stepN
        · exact op_assign_const (by rfl)
        · rfl
        · (try dsimp only [zS, zN, zH, zT]); try exact rfl
        apply al_end
        · (try dsimp only [zS, zN, zH, zT]); try exact rfl
        refine then_normal ?_
        refine aw_ret ?_
        refine then_ret ?_
        refine retPost1 rfl rfl ?_
        first | exact rfl | (rw [sac, sab, htr]; simp [TF]; done) | (simp [TF]; done)
      · skip
        (try simp only [decide_eq_true_eq, decide_eq_false_iff_not, beq_iff_eq, beq_eq_false_iff_ne, Bool.not_eq_true', Bool.not_eq_false', bne_iff_ne, ne_eq, Decidable.not_not, bne_eq_false_iff_eq, List.length_map] at hg4)
        have fb : fewV 7 b = true := by simpa using hg4
        apply al_normT
        · (try dsimp only [zS, zN, zH, zT]); try exact rfl
        apply al_wantedN
        · rfl
        · rfl
        · rfl
        · exact op_load_ptrsD (vC c) Try.underlying37 (by rfl) Sz37 (by rfl) push_at (by show 0 + 6 ≤ ((vC c).map AV.d).length; rw [List.length_map, vC_len]; exact Nat.le_refl _) (by show (((vC c).map AV.d).drop 0).take 6 = _; rw [List.drop_zero, List.take_of_length_le (by rw [List.length_map, vC_len]; exact Nat.le_refl _)]) (vC_one c)
        · (try dsimp only [zS, zN, zH, zT]); try exact rfl
        apply al_wantedN
        · rfl
        · rfl
        · rfl
        · exact op_callF Try.func20 (by rfl) (by rfl) (.tmp (by rfl) (.const (by rfl) .nil)) (few_ok 7 c (by decide) _)
        · (try dsimp only [zS, zN, zH, zT]); try exact rfl
        apply al_wantedN
        · rfl
        · rfl
        · rfl
        · exact op_not (by rfl)
        · (try dsimp only [zS, zN, zH, zT]); try exact rfl
        apply al_stepN
        · exact op_pick_ff (by rfl) (val_tmp (by rfl))
        · rfl
        · (try dsimp only [zS, zN, zH, zT]); try exact rfl
        apply al_end
        · (try dsimp only [zS, zN, zH, zT]); try exact rfl
        refine then_normal ?_
        refine aw_cond rfl (fun hc6 => ?_) (fun hc6 => ?_)
        · skip
          (try simp only [decide_eq_true_eq, decide_eq_false_iff_not, beq_iff_eq, beq_eq_false_iff_ne, Bool.not_eq_true', Bool.not_eq_false', bne_iff_ne, ne_eq, Decidable.not_not, bne_eq_false_iff_eq, List.length_map] at hc6)
          refine aw_seq ?_
          refine aw_region ?_
          apply al_stepN
          · exact op_assign_const (by rfl)
          · rfl
          · (try dsimp only [zS, zN, zH, zT]); try exact rfl
          apply al_end
          · (try dsimp only [zS, zN, zH, zT]); try exact rfl
          refine then_normal ?_
          refine aw_ret ?_
          refine then_ret ?_
          refine retPost1 rfl rfl ?_
          first | exact rfl | (rw [sac, sab, htr]; simp [TF]; done) | (simp [TF]; done)
        · skip
          (try simp only [decide_eq_true_eq, decide_eq_false_iff_not, beq_iff_eq, beq_eq_false_iff_ne, Bool.not_eq_true', Bool.not_eq_false', bne_iff_ne, ne_eq, Decidable.not_not, bne_eq_false_iff_eq, List.length_map] at hc6)
          have fc : fewV 7 c = true := by simpa using hc6
          obtain ⟨ra, sa, wa, _⟩ := law_parts fa va
          obtain ⟨rb, sb, wb, _⟩ := law_parts fb vb
          obtain ⟨rc, sc, wc, _⟩ := law_parts fc vc
          have sab : sgn (cmpV (lawR a) (lawR b)) = (cmpV (lawR a) (lawR b)) := by rcases cmp_vals ra rb wa wb with h | h | h <;> rw [h] <;> rfl
          have sbc : sgn (cmpV (lawR b) (lawR c)) = (cmpV (lawR b) (lawR c)) := by rcases cmp_vals rb rc wb wc with h | h | h <;> rw [h] <;> rfl
          have sac : sgn (cmpV (lawR a) (lawR c)) = (cmpV (lawR a) (lawR c)) := by rcases cmp_vals ra rc wa wc with h | h | h <;> rw [h] <;> rfl
          have sba : sgn (cmpV (lawR b) (lawR a)) = (cmpV (lawR b) (lawR a)) := by rcases cmp_vals rb ra wb wa with h | h | h <;> rw [h] <;> rfl
          have hneg := cmp_neg ra rb wa wb
          have hself : cmpV (lawR a) (lawR a) = 0 := (cmp_zero ra ra wa wa).2 rfl
          refine aw_skip ?_
          refine then_normal ?_
          refine aw_seq ?_
          refine aw_region ?_
          apply al_stepN
          · exact op_load_ptrsD (vC a) Try.underlying37 (by rfl) Sz37 (by rfl) (push_ne (push_ne push_at)) (by show 0 + 6 ≤ ((vC a).map AV.d).length; rw [List.length_map, vC_len]; exact Nat.le_refl _) (by show (((vC a).map AV.d).drop 0).take 6 = _; rw [List.drop_zero, List.take_of_length_le (by rw [List.length_map, vC_len]; exact Nat.le_refl _)]) (vC_one a)
          · rfl
          · (try dsimp only [zS, zN, zH, zT]); try exact rfl
          apply al_stepN
          · exact op_callF Try.func21 (by rfl) (by rfl) (.tmp (by rfl) .nil) (lawR_all 7 a fa _)
          · rfl
          · (try dsimp only [zS, zN, zH, zT]); try exact rfl
          apply al_stepN
          · exact op_storeVV a (lawR a) Sz37 (by rfl) (push_ne (push_ne push_at)) (by rfl)
          · rfl
          · (try dsimp only [zS, zN, zH, zT]); try exact rfl
          apply al_end
          · (try dsimp only [zS, zN, zH, zT]); try exact rfl
          refine then_normal ?_
          refine aw_seq ?_
          refine aw_region ?_
          apply al_stepN
          · exact op_load_ptrsD (vC b) Try.underlying37 (by rfl) Sz37 (by rfl) (by rw [setB_ne (by simp only [push_nb, ne_eq]; omega)]; exact (push_ne push_at)) (by show 0 + 6 ≤ ((vC b).map AV.d).length; rw [List.length_map, vC_len]; exact Nat.le_refl _) (by show (((vC b).map AV.d).drop 0).take 6 = _; rw [List.drop_zero, List.take_of_length_le (by rw [List.length_map, vC_len]; exact Nat.le_refl _)]) (vC_one b)
          · rfl
          · (try dsimp only [zS, zN, zH, zT]); try exact rfl
          apply al_stepN
          · exact op_callF Try.func21 (by rfl) (by rfl) (.tmp (by rfl) .nil) (lawR_all 7 b fb _)
          · rfl
          · (try dsimp only [zS, zN, zH, zT]); try exact rfl
          apply al_stepN
          · exact op_storeVV b (lawR b) Sz37 (by rfl) (by rw [setB_ne (by simp only [push_nb, ne_eq]; omega)]; exact (push_ne push_at)) (by rfl)
          · rfl
          · (try dsimp only [zS, zN, zH, zT]); try exact rfl
          apply al_end
          · (try dsimp only [zS, zN, zH, zT]); try exact rfl
          refine then_normal ?_
          apply aw_cutF (fun T H => ∃ (i0 : Nat) (i1 : Nat) (i2 : Nat), T = (.un :: .un :: .un :: (.ptr i0 0) :: (.ptr i1 0) :: (.ptr i2 0) :: .un :: .un :: .un :: .un :: .un :: .un :: .un :: .un :: .un :: .un :: .un :: .un :: .un :: .un :: .un :: .un :: .un :: .un :: .un :: .un :: .un :: .un :: .un :: .un :: .un :: .un :: .un :: .un :: .un :: .un :: .un :: .un :: .un :: .un :: .un :: .un :: .un :: .un :: .un :: .un :: .un :: .un :: .un :: .un :: .un :: .un :: .un :: .un :: .un :: .un :: .un :: .un :: .un :: .un :: .un :: .un :: .un :: .un :: .un :: .un :: .un :: .un :: .un :: .un :: .un :: .un :: .un :: .un :: .un :: .un :: .un :: .un :: .un :: .un :: .un :: .un :: .un :: .un :: []) ∧ H.blks[i0]? = some ⟨37, (vC (lawR a)).map .d, false⟩ ∧ H.blks[i1]? = some ⟨37, (vC (lawR b)).map .d, false⟩ ∧ H.blks[i2]? = some ⟨37, (vC (lawR c)).map .d, false⟩)
          · skip
            refine aw_region ?_
            apply al_stepN
            · exact op_load_ptrsD (vC c) Try.underlying37 (by rfl) Sz37 (by rfl) (by rw [setB_ne (by simp only [push_nb, ne_eq]; omega), setB_ne (by simp only [push_nb, ne_eq]; omega)]; exact push_at) (by show 0 + 6 ≤ ((vC c).map AV.d).length; rw [List.length_map, vC_len]; exact Nat.le_refl _) (by show (((vC c).map AV.d).drop 0).take 6 = _; rw [List.drop_zero, List.take_of_length_le (by rw [List.length_map, vC_len]; exact Nat.le_refl _)]) (vC_one c)
            · rfl
            · (try dsimp only [zS, zN, zH, zT]); try exact rfl
            apply al_stepN
            · exact op_callF Try.func21 (by rfl) (by rfl) (.tmp (by rfl) .nil) (lawR_all 7 c fc _)
            · rfl
            · (try dsimp only [zS, zN, zH, zT]); try exact rfl
            apply al_stepN
            · exact op_storeVV c (lawR c) Sz37 (by rfl) (by rw [setB_ne (by simp only [push_nb, ne_eq]; omega), setB_ne (by simp only [push_nb, ne_eq]; omega)]; exact push_at) (by rfl)
            · rfl
            · (try dsimp only [zS, zN, zH, zT]); try exact rfl
            apply al_end
            · (try dsimp only [zS, zN, zH, zT]); try exact rfl
            apply cut_to (false :: false :: false :: true :: true :: true :: false :: false :: false :: false :: false :: false :: false :: false :: false :: false :: false :: false :: false :: false :: false :: false :: false :: false :: false :: false :: false :: false :: false :: false :: false :: false :: false :: false :: false :: false :: false :: false :: false :: false :: false :: false :: false :: false :: false :: false :: false :: false :: false :: false :: false :: false :: false :: false :: false :: false :: false :: false :: false :: false :: false :: false :: false :: false :: false :: false :: false :: false :: false :: false :: false :: false :: false :: false :: false :: false :: false :: false :: false :: false :: false :: false :: false :: false :: [])
            · (try dsimp only [maskT]); try exact rfl
            · rfl
            exact ⟨_, _, _, rfl, (by rw [setB_ne (by simp only [push_nb, ne_eq]; omega), setB_ne (by simp only [push_nb, ne_eq]; omega)]; exact setB_at (push_ne (push_ne push_at))), (by rw [setB_ne (by simp only [push_nb, ne_eq]; omega)]; exact setB_at (by rw [setB_ne (by simp only [push_nb, ne_eq]; omega)]; exact (push_ne push_at))), (setB_at (by rw [setB_ne (by simp only [push_nb, ne_eq]; omega), setB_ne (by simp only [push_nb, ne_eq]; omega)]; exact push_at))⟩
          rintro T H ⟨i0, i1, i2, rfl, ea, eb, ec⟩
          refine aw_seq ?_
          refine aw_region ?_
          apply al_stepN
          · exact op_assign_func
          · rfl
          · (try dsimp only [zS, zN, zH, zT]); try exact rfl
          apply al_end
          · (try dsimp only [zS, zN, zH, zT]); try exact rfl
          refine then_normal ?_
          refine aw_seq ?_
          refine aw_region ?_
          apply al_stepN
          · exact op_move_tmp (by rfl)
          · rfl
          · (try dsimp only [zS, zN, zH, zT]); try exact rfl
          apply al_stepN
          · exact op_load_ptrsD (vC (lawR a)) Try.underlying37 (by rfl) Sz37 (by rfl) ea (by show 0 + 6 ≤ ((vC (lawR a)).map AV.d).length; rw [List.length_map, vC_len]; exact Nat.le_refl _) (by show (((vC (lawR a)).map AV.d).drop 0).take 6 = _; rw [List.drop_zero, List.take_of_length_le (by rw [List.length_map, vC_len]; exact Nat.le_refl _)]) (vC_one (lawR a))
          · rfl
          · (try dsimp only [zS, zN, zH, zT]); try exact rfl
          apply al_stepN
          · exact op_load_ptrsD (vC (lawR b)) Try.underlying37 (by rfl) Sz37 (by rfl) eb (by show 0 + 6 ≤ ((vC (lawR b)).map AV.d).length; rw [List.length_map, vC_len]; exact Nat.le_refl _) (by show (((vC (lawR b)).map AV.d).drop 0).take 6 = _; rw [List.drop_zero, List.take_of_length_le (by rw [List.length_map, vC_len]; exact Nat.le_refl _)]) (vC_one (lawR b))
          · rfl
          · (try dsimp only [zS, zN, zH, zT]); try exact rfl
          apply al_stepN
          · exact op_callF Try.func28 (by rfl) (by rfl) (.tmp (by rfl) (.tmp (by rfl) .nil)) (cmp_ok _ (lawR a) (lawR b) sa sb)
          · rfl
          · (try dsimp only [zS, zN, zH, zT]); try exact rfl
          apply al_stepN
          · exact op_callV (by rfl) Try.func51 (by rfl) (by rfl) (.tmp (by rfl) .nil) (vsign_ok _ _)
          · rfl
          · (try dsimp only [zS, zN, zH, zT]); try exact rfl
          apply al_stepN
          · exact op_assign_tmp (by rfl)
          · rfl
          · (try dsimp only [zS, zN, zH, zT]); try exact rfl
          apply al_end
          · (try dsimp only [zS, zN, zH, zT]); try exact rfl
          refine then_normal ?_
          refine aw_seq ?_
          refine aw_region ?_
          apply al_stepN
          · exact op_move_tmp (by rfl)
          · rfl
          · (try dsimp only [zS, zN, zH, zT]); try exact rfl
          apply al_stepN
          · exact op_load_ptrsD (vC (lawR b)) Try.underlying37 (by rfl) Sz37 (by rfl) eb (by show 0 + 6 ≤ ((vC (lawR b)).map AV.d).length; rw [List.length_map, vC_len]; exact Nat.le_refl _) (by show (((vC (lawR b)).map AV.d).drop 0).take 6 = _; rw [List.drop_zero, List.take_of_length_le (by rw [List.length_map, vC_len]; exact Nat.le_refl _)]) (vC_one (lawR b))
          · rfl
          · (try dsimp only [zS, zN, zH, zT]); try exact rfl
          apply al_stepN
          · exact op_load_ptrsD (vC (lawR c)) Try.underlying37 (by rfl) Sz37 (by rfl) ec (by show 0 + 6 ≤ ((vC (lawR c)).map AV.d).length; rw [List.length_map, vC_len]; exact Nat.le_refl _) (by show (((vC (lawR c)).map AV.d).drop 0).take 6 = _; rw [List.drop_zero, List.take_of_length_le (by rw [List.length_map, vC_len]; exact Nat.le_refl _)]) (vC_one (lawR c))
          · rfl
          · (try dsimp only [zS, zN, zH, zT]); try exact rfl
          apply al_stepN
          · exact op_callF Try.func28 (by rfl) (by rfl) (.tmp (by rfl) (.tmp (by rfl) .nil)) (cmp_ok _ (lawR b) (lawR c) sb sc)
          · rfl
          · (try dsimp only [zS, zN, zH, zT]); try exact rfl
          apply al_stepN
          · exact op_callV (by rfl) Try.func51 (by rfl) (by rfl) (.tmp (by rfl) .nil) (vsign_ok _ _)
          · rfl
          · (try dsimp only [zS, zN, zH, zT]); try exact rfl
          apply al_stepN
          · exact op_assign_tmp (by rfl)
          · rfl
          · (try dsimp only [zS, zN, zH, zT]); try exact rfl
          apply al_end
          · (try dsimp only [zS, zN, zH, zT]); try exact rfl
          refine then_normal ?_
          refine aw_seq ?_
          refine aw_region ?_
          apply al_stepN
          · exact op_move_tmp (by rfl)
          · rfl
          · (try dsimp only [zS, zN, zH, zT]); try exact rfl
          apply al_stepN
          · exact op_load_ptrsD (vC (lawR a)) Try.underlying37 (by rfl) Sz37 (by rfl) ea (by show 0 + 6 ≤ ((vC (lawR a)).map AV.d).length; rw [List.length_map, vC_len]; exact Nat.le_refl _) (by show (((vC (lawR a)).map AV.d).drop 0).take 6 = _; rw [List.drop_zero, List.take_of_length_le (by rw [List.length_map, vC_len]; exact Nat.le_refl _)]) (vC_one (lawR a))
          · rfl
          · (try dsimp only [zS, zN, zH, zT]); try exact rfl
          apply al_stepN
          · exact op_load_ptrsD (vC (lawR c)) Try.underlying37 (by rfl) Sz37 (by rfl) ec (by show 0 + 6 ≤ ((vC (lawR c)).map AV.d).length; rw [List.length_map, vC_len]; exact Nat.le_refl _) (by show (((vC (lawR c)).map AV.d).drop 0).take 6 = _; rw [List.drop_zero, List.take_of_length_le (by rw [List.length_map, vC_len]; exact Nat.le_refl _)]) (vC_one (lawR c))
          · rfl
          · (try dsimp only [zS, zN, zH, zT]); try exact rfl
          apply al_stepN
          · exact op_callF Try.func28 (by rfl) (by rfl) (.tmp (by rfl) (.tmp (by rfl) .nil)) (cmp_ok _ (lawR a) (lawR c) sa sc)
          · rfl
          · (try dsimp only [zS, zN, zH, zT]); try exact rfl
          apply al_stepN
          · exact op_callV (by rfl) Try.func51 (by rfl) (by rfl) (.tmp (by rfl) .nil) (vsign_ok _ _)
          · rfl
          · (try dsimp only [zS, zN, zH, zT]); try exact rfl
          apply al_stepN
          · exact op_assign_tmp (by rfl)
          · rfl
          · (try dsimp only [zS, zN, zH, zT]); try exact rfl
          apply al_end
          · (try dsimp only [zS, zN, zH, zT]); try exact rfl
          refine then_normal ?_
          refine aw_seq ?_
          refine aw_seq ?_
          refine aw_region ?_
          apply al_stepN
          · exact op_move_tmp (by rfl)
          · rfl
          · (try dsimp only [zS, zN, zH, zT]); try exact rfl
          apply al_stepN
          · exact op_load_ptrsD (vC (lawR a)) Try.underlying37 (by rfl) Sz37 (by rfl) ea (by show 0 + 6 ≤ ((vC (lawR a)).map AV.d).length; rw [List.length_map, vC_len]; exact Nat.le_refl _) (by show (((vC (lawR a)).map AV.d).drop 0).take 6 = _; rw [List.drop_zero, List.take_of_length_le (by rw [List.length_map, vC_len]; exact Nat.le_refl _)]) (vC_one (lawR a))
          · rfl
          · (try dsimp only [zS, zN, zH, zT]); try exact rfl
          apply al_stepN
          · exact op_load_ptrsD (vC (lawR b)) Try.underlying37 (by rfl) Sz37 (by rfl) eb (by show 0 + 6 ≤ ((vC (lawR b)).map AV.d).length; rw [List.length_map, vC_len]; exact Nat.le_refl _) (by show (((vC (lawR b)).map AV.d).drop 0).take 6 = _; rw [List.drop_zero, List.take_of_length_le (by rw [List.length_map, vC_len]; exact Nat.le_refl _)]) (vC_one (lawR b))
          · rfl
          · (try dsimp only [zS, zN, zH, zT]); try exact rfl
          apply al_stepN
          · exact op_callF Try.func52 (by rfl) (by rfl) (.tmp (by rfl) (.tmp (by rfl) .nil)) (order_ok 32 (lawR a) (lawR b) ra rb sa sb _)
          · rfl
          · (try dsimp only [zS, zN, zH, zT]); try exact rfl
          apply al_stepN
          · exact op_neI (by rfl) (by rfl)
          · rfl
          · (try dsimp only [zS, zN, zH, zT]); try exact rfl
          apply al_stepN
          · exact op_move_tmp (by rfl)
          · rfl
          · (try dsimp only [zS, zN, zH, zT]); try exact rfl
          refine al_split 52 rfl (fun hg7 => ?_) (fun hg7 => ?_)
          · skip
            (try simp only [decide_eq_true_eq, decide_eq_false_iff_not, beq_iff_eq, beq_eq_false_iff_ne, Bool.not_eq_true', Bool.not_eq_false', bne_iff_ne, ne_eq, Decidable.not_not, bne_eq_false_iff_eq, List.length_map] at hg7)
            apply al_normT
            · (try dsimp only [zS, zN, zH, zT]); try exact rfl
            exact absurd sab hg7
          · skip
            (try simp only [decide_eq_true_eq, decide_eq_false_iff_not, beq_iff_eq, beq_eq_false_iff_ne, Bool.not_eq_true', Bool.not_eq_false', bne_iff_ne, ne_eq, Decidable.not_not, bne_eq_false_iff_eq, List.length_map] at hg7)
            apply al_normT
            · (try dsimp only [zS, zN, zH, zT]); try exact rfl
            apply al_wantedN
            · rfl
            · rfl
            · rfl
            · exact op_move_tmp (by rfl)
            · (try dsimp only [zS, zN, zH, zT]); try exact rfl
            apply al_wantedN
            · rfl
            · rfl
            · rfl
            · exact op_load_ptrsD (vC (lawR b)) Try.underlying37 (by rfl) Sz37 (by rfl) eb (by show 0 + 6 ≤ ((vC (lawR b)).map AV.d).length; rw [List.length_map, vC_len]; exact Nat.le_refl _) (by show (((vC (lawR b)).map AV.d).drop 0).take 6 = _; rw [List.drop_zero, List.take_of_length_le (by rw [List.length_map, vC_len]; exact Nat.le_refl _)]) (vC_one (lawR b))
            · (try dsimp only [zS, zN, zH, zT]); try exact rfl
            apply al_wantedN
            · rfl
            · rfl
            · rfl
            · exact op_load_ptrsD (vC (lawR a)) Try.underlying37 (by rfl) Sz37 (by rfl) ea (by show 0 + 6 ≤ ((vC (lawR a)).map AV.d).length; rw [List.length_map, vC_len]; exact Nat.le_refl _) (by show (((vC (lawR a)).map AV.d).drop 0).take 6 = _; rw [List.drop_zero, List.take_of_length_le (by rw [List.length_map, vC_len]; exact Nat.le_refl _)]) (vC_one (lawR a))
            · (try dsimp only [zS, zN, zH, zT]); try exact rfl
            apply al_wantedN
            · rfl
            · rfl
            · rfl
            · exact op_callF Try.func28 (by rfl) (by rfl) (.tmp (by rfl) (.tmp (by rfl) .nil)) (cmp_ok _ (lawR b) (lawR a) sb sa)
            · (try dsimp only [zS, zN, zH, zT]); try exact rfl
            apply al_wantedN
            · rfl
            · rfl
            · rfl
            · exact op_callV (by rfl) Try.func51 (by rfl) (by rfl) (.tmp (by rfl) .nil) (vsign_ok _ _)
            · (try dsimp only [zS, zN, zH, zT]); try exact rfl
            apply al_wantedN
            · rfl
            · rfl
            · rfl
            · exact op_move_tmp (by rfl)
            · (try dsimp only [zS, zN, zH, zT]); try exact rfl
            apply al_wantedN
            · rfl
            · rfl
            · rfl
            · first | exact op_neg (by rfl) (wrap_i64 ⟨by omega, by omega⟩) | exact op_neg (by rfl) (by rfl)
            · (try dsimp only [zS, zN, zH, zT]); try exact rfl
            apply al_wantedN
            · rfl
            · rfl
            · rfl
            · exact op_neI (by rfl) (by rfl)
            · (try dsimp only [zS, zN, zH, zT]); try exact rfl
            apply al_stepN
            · exact op_pick_ff (by rfl) (val_tmp (by rfl))
            · rfl
            · (try dsimp only [zS, zN, zH, zT]); try exact rfl
            apply al_stepN
            · exact op_move_tmp (by rfl)
            · rfl
            · (try dsimp only [zS, zN, zH, zT]); try exact rfl
            refine al_split 62 rfl (fun hg8 => ?_) (fun hg8 => ?_)
            · skip
              (try simp only [decide_eq_true_eq, decide_eq_false_iff_not, beq_iff_eq, beq_eq_false_iff_ne, Bool.not_eq_true', Bool.not_eq_false', bne_iff_ne, ne_eq, Decidable.not_not, bne_eq_false_iff_eq, List.length_map] at hg8)
              apply al_normT
              · (try dsimp only [zS, zN, zH, zT]); try exact rfl
              exact absurd (by rw [sba, sab, hneg]; rcases cmp_vals ra rb wa wb with h | h | h <;> rw [h] <;> rfl) hg8
            · skip
              (try simp only [decide_eq_true_eq, decide_eq_false_iff_not, beq_iff_eq, beq_eq_false_iff_ne, Bool.not_eq_true', Bool.not_eq_false', bne_iff_ne, ne_eq, Decidable.not_not, bne_eq_false_iff_eq, List.length_map] at hg8)
              apply al_normT
              · (try dsimp only [zS, zN, zH, zT]); try exact rfl
              apply al_wantedN
              · rfl
              · rfl
              · rfl
              · exact op_load_ptrsD (vC (lawR a)) Try.underlying37 (by rfl) Sz37 (by rfl) ea (by show 0 + 6 ≤ ((vC (lawR a)).map AV.d).length; rw [List.length_map, vC_len]; exact Nat.le_refl _) (by show (((vC (lawR a)).map AV.d).drop 0).take 6 = _; rw [List.drop_zero, List.take_of_length_le (by rw [List.length_map, vC_len]; exact Nat.le_refl _)]) (vC_one (lawR a))
              · (try dsimp only [zS, zN, zH, zT]); try exact rfl
              apply al_wantedN
              · rfl
              · rfl
              · rfl
              · exact op_load_ptrsD (vC (lawR a)) Try.underlying37 (by rfl) Sz37 (by rfl) ea (by show 0 + 6 ≤ ((vC (lawR a)).map AV.d).length; rw [List.length_map, vC_len]; exact Nat.le_refl _) (by show (((vC (lawR a)).map AV.d).drop 0).take 6 = _; rw [List.drop_zero, List.take_of_length_le (by rw [List.length_map, vC_len]; exact Nat.le_refl _)]) (vC_one (lawR a))
              · (try dsimp only [zS, zN, zH, zT]); try exact rfl
              apply al_wantedN
              · rfl
              · rfl
              · rfl
              · exact op_callF Try.func28 (by rfl) (by rfl) (.tmp (by rfl) (.tmp (by rfl) .nil)) (cmp_ok _ (lawR a) (lawR a) sa sa)
              · (try dsimp only [zS, zN, zH, zT]); try exact rfl
              apply al_wantedN
              · rfl
              · rfl
              · rfl
              · exact op_neI (by rfl) (by rfl)
              · (try dsimp only [zS, zN, zH, zT]); try exact rfl
              apply al_stepN
              · exact op_pick_ff (by rfl) (val_tmp (by rfl))
              · rfl
              · (try dsimp only [zS, zN, zH, zT]); try exact rfl
              apply al_stepN
              · exact op_move_tmp (by rfl)
              · rfl
              · (try dsimp only [zS, zN, zH, zT]); try exact rfl
              refine al_split 68 rfl (fun hg9 => ?_) (fun hg9 => ?_)
              · skip
                (try simp only [decide_eq_true_eq, decide_eq_false_iff_not, beq_iff_eq, beq_eq_false_iff_ne, Bool.not_eq_true', Bool.not_eq_false', bne_iff_ne, ne_eq, Decidable.not_not, bne_eq_false_iff_eq, List.length_map] at hg9)
                apply al_normT
                · (try dsimp only [zS, zN, zH, zT]); try exact rfl
                exact absurd hself hg9
              · skip
                (try simp only [decide_eq_true_eq, decide_eq_false_iff_not, beq_iff_eq, beq_eq_false_iff_ne, Bool.not_eq_true', Bool.not_eq_false', bne_iff_ne, ne_eq, Decidable.not_not, bne_eq_false_iff_eq, List.length_map] at hg9)
                apply al_normT
                · (try dsimp only [zS, zN, zH, zT]); try exact rfl
                apply al_wantedN
                · rfl
                · rfl
                · rfl
                · exact op_load_ptrsD (vC (lawR a)) Try.underlying37 (by rfl) Sz37 (by rfl) ea (by show 0 + 6 ≤ ((vC (lawR a)).map AV.d).length; rw [List.length_map, vC_len]; exact Nat.le_refl _) (by show (((vC (lawR a)).map AV.d).drop 0).take 6 = _; rw [List.drop_zero, List.take_of_length_le (by rw [List.length_map, vC_len]; exact Nat.le_refl _)]) (vC_one (lawR a))
                · (try dsimp only [zS, zN, zH, zT]); try exact rfl
                apply al_wantedN
                · rfl
                · rfl
                · rfl
                · exact op_load_ptrsD (vC (lawR b)) Try.underlying37 (by rfl) Sz37 (by rfl) eb (by show 0 + 6 ≤ ((vC (lawR b)).map AV.d).length; rw [List.length_map, vC_len]; exact Nat.le_refl _) (by show (((vC (lawR b)).map AV.d).drop 0).take 6 = _; rw [List.drop_zero, List.take_of_length_le (by rw [List.length_map, vC_len]; exact Nat.le_refl _)]) (vC_one (lawR b))
                · (try dsimp only [zS, zN, zH, zT]); try exact rfl
                apply al_wantedN
                · rfl
                · rfl
                · rfl
                · exact op_callF Try.func53 (by rfl) (by rfl) (.tmp (by rfl) (.tmp (by rfl) .nil)) (vsame_ok _ (lawR a) (lawR b) sa sb)
                · (try dsimp only [zS, zN, zH, zT]); try exact rfl
                apply al_wantedN
                · rfl
                · rfl
                · rfl
                · exact op_move_tmp (by rfl)
                · (try dsimp only [zS, zN, zH, zT]); try exact rfl
                apply al_wantedN
                · rfl
                · rfl
                · rfl
                · exact op_eqI (by rfl) (by rfl)
                · (try dsimp only [zS, zN, zH, zT]); try exact rfl
                apply al_wantedN
                · rfl
                · rfl
                · rfl
                · exact op_neB Try.underlying4 (by rfl) (by rfl)
                · (try dsimp only [zS, zN, zH, zT]); try exact rfl
                apply al_stepN
                · exact op_pick_ff (by rfl) (val_tmp (by rfl))
                · rfl
                · (try dsimp only [zS, zN, zH, zT]); try exact rfl
                apply al_end
                · (try dsimp only [zS, zN, zH, zT]); try exact rfl
                refine then_normal ?_
                refine aw_cond rfl (fun hc10 => ?_) (fun hc10 => ?_)
                · skip
                  (try simp only [decide_eq_true_eq, decide_eq_false_iff_not, beq_iff_eq, beq_eq_false_iff_ne, Bool.not_eq_true', Bool.not_eq_false', bne_iff_ne, ne_eq, Decidable.not_not, bne_eq_false_iff_eq, List.length_map] at hc10)
                  exact absurd (show (cmpV (lawR a) (lawR b) == 0) = (sgn (cmpV (lawR a) (lawR b)) == 0) by rw [sab]) hc10
                · skip
                  (try simp only [decide_eq_true_eq, decide_eq_false_iff_not, beq_iff_eq, beq_eq_false_iff_ne, Bool.not_eq_true', Bool.not_eq_false', bne_iff_ne, ne_eq, Decidable.not_not, bne_eq_false_iff_eq, List.length_map] at hc10)
                  refine aw_skip ?_
                  refine then_normal ?_
                  refine aw_seq ?_
                  refine aw_region ?_
                  apply al_stepN
                  · exact op_move_tmp (by rfl)
                  · rfl
                  · (try dsimp only [zS, zN, zH, zT]); try exact rfl
                  apply al_stepN
                  · exact op_move_tmp (by rfl)
                  · rfl
                  · (try dsimp only [zS, zN, zH, zT]); try exact rfl
                  apply al_stepN
                  · exact op_neI (by rfl) (by rfl)
                  · rfl
                  · (try dsimp only [zS, zN, zH, zT]); try exact rfl
                  apply al_stepN
                  · exact op_move_tmp (by rfl)
                  · rfl
                  · (try dsimp only [zS, zN, zH, zT]); try exact rfl
                  refine al_split 79 rfl (fun hg11 => ?_) (fun hg11 => ?_)
                  · skip
                    (try simp only [decide_eq_true_eq, decide_eq_false_iff_not, beq_iff_eq, beq_eq_false_iff_ne, Bool.not_eq_true', Bool.not_eq_false', bne_iff_ne, ne_eq, Decidable.not_not, bne_eq_false_iff_eq, List.length_map] at hg11)
                    apply al_normT
                    · (try dsimp only [zS, zN, zH, zT]); try exact rfl
                    refine al_unwanted rfl rfl rfl rfl ?_
                    apply al_normT
                    · (try dsimp only [zS, zN, zH, zT]); try exact rfl
                    refine al_unwanted rfl rfl rfl rfl ?_
                    apply al_normT
                    · (try dsimp only [zS, zN, zH, zT]); try exact rfl
                    refine al_unwanted rfl rfl rfl rfl ?_
                    apply al_normT
                    · (try dsimp only [zS, zN, zH, zT]); try exact rfl
                    apply al_stepN
                    · exact op_pick_tt (by rfl) (val_const (by rfl))
                    · rfl
                    · (try dsimp only [zS, zN, zH, zT]); try exact rfl
                    apply al_stepN
                    · exact op_assign_tmp (by rfl)
                    · rfl
                    · (try dsimp only [zS, zN, zH, zT]); try exact rfl
                    apply al_end
                    · (try dsimp only [zS, zN, zH, zT]); try exact rfl
                    refine then_normal ?_
                    refine aw_ret ?_
                    refine retPost1 rfl rfl ?_
                    first | exact rfl | (rw [sac, sab, htr]; simp [TF]; done) | (simp [TF]; done)
                  · skip
                    (try simp only [decide_eq_true_eq, decide_eq_false_iff_not, beq_iff_eq, beq_eq_false_iff_ne, Bool.not_eq_true', Bool.not_eq_false', bne_iff_ne, ne_eq, Decidable.not_not, bne_eq_false_iff_eq, List.length_map] at hg11)
                    have hab : cmpV (lawR a) (lawR b) = cmpV (lawR b) (lawR c) := by rw [← sab, ← sbc]; exact hg11
                    have htr := cmp_trans ra rb rc wa wb wc hab
                    apply al_normT
                    · (try dsimp only [zS, zN, zH, zT]); try exact rfl
                    apply al_wantedN
                    · rfl
                    · rfl
                    · rfl
                    · exact op_move_tmp (by rfl)
                    · (try dsimp only [zS, zN, zH, zT]); try exact rfl
                    apply al_wantedN
                    · rfl
                    · rfl
                    · rfl
                    · exact op_move_tmp (by rfl)
                    · (try dsimp only [zS, zN, zH, zT]); try exact rfl
                    apply al_wantedN
                    · rfl
                    · rfl
                    · rfl
                    · exact op_eqI (by rfl) (by rfl)
                    · (try dsimp only [zS, zN, zH, zT]); try exact rfl
                    apply al_stepN
                    · exact op_pick_ff (by rfl) (val_tmp (by rfl))
                    · rfl
                    · (try dsimp only [zS, zN, zH, zT]); try exact rfl
                    apply al_stepN
                    · exact op_assign_tmp (by rfl)
                    · rfl
                    · (try dsimp only [zS, zN, zH, zT]); try exact rfl
                    apply al_end
                    · (try dsimp only [zS, zN, zH, zT]); try exact rfl
                    refine then_normal ?_
                    refine aw_ret ?_
                    refine retPost1 rfl rfl ?_
                    first | exact rfl | (rw [sac, sab, htr]; simp [TF]; done) | (simp [TF]; done)
end Go.Proofs.Ytadkehaagkjbhaa
