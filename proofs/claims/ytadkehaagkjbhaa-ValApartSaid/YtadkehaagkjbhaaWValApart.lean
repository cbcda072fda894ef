/- What the law ValApart comes to. -/
import Derived.Test.YtadkehaagkjbhaaValU
import Derived.Test.YtadkehaagkjbhaaValLf
import Derived.Test.YtadkehaagkjbhaaValRt
import Derived.Test.YtadkehaagkjbhaaValOrd2
import Derived.Test.YtadkehaagkjbhaaArgVal
import Derived.KernelRfl
namespace Go.Proofs.Ytadkehaagkjbhaa
open Go.AV Go.AV.Ord Go.AV.Oct Go.AV.Val
set_option linter.unusedVariables false
set_option linter.unusedSimpArgs false
theorem vtypes : VTypes Try.prog 37 89 33 4 2 9 34 35 where
  v := ⟨_, Try.underlying37, ⟨_, rfl, rfl, rfl⟩, ⟨_, rfl, rfl, rfl⟩, ⟨_, rfl, rfl, rfl⟩, ⟨_, rfl, rfl, rfl⟩, ⟨_, rfl, rfl, rfl⟩, ⟨_, rfl, rfl, rfl⟩, rfl⟩
  f := ⟨_, Try.underlying89, ⟨_, rfl, rfl, rfl⟩, ⟨_, rfl, rfl, rfl⟩, rfl⟩
  k := Try.underlying33
  b := Try.underlying4
  i := Try.underlying2
  s := Try.underlying9
  l := Try.underlying34
  m := Try.underlying35
  cV := by kernel_rfl
  cF := by kernel_rfl
  cK := by kernel_rfl
  cB := by kernel_rfl
  cI := by kernel_rfl
  cS := by kernel_rfl
  cL := by kernel_rfl
  cM := by kernel_rfl
set_option maxRecDepth 100000 in
theorem valApart_walk (Hs : HS) (a b : V) (wa : WfV a) (wb : WfV b) : ACalls Try.prog 13 [.d (.agg (vC a)), .d (.agg (vC b))] Hs (fun av _ => av = .d (TF true)) := by
  refine acalls_of_aw Try.func13 rfl ?_
  refine aw_start (T' := ((.d (.agg (vC a))) :: (.d (.agg (vC b))) :: .un :: .un :: .un :: .un :: .un :: .un :: .un :: .un :: .un :: .un :: .un :: .un :: .un :: .un :: .un :: .un :: .un :: .un :: .un :: .un :: .un :: .un :: .un :: .un :: .un :: .un :: .un :: .un :: .un :: .un :: .un :: .un :: .un :: .un :: .un :: .un :: .un :: .un :: .un :: .un :: .un :: .un :: .un :: .un :: .un :: .un :: .un :: .un :: .un :: .un :: .un :: .un :: .un :: .un :: .un :: .un :: .un :: .un :: .un :: .un :: .un :: .un :: .un :: [])) rfl ?_
  refine aw_seq ?_
  refine aw_region ?_
  apply al_stepN
  · exact op_box_elt (cs := [I a.kind, TF a.yes, .v (.int .i64 a.num), S a.text, .lst 6 (a.list.map vD), .lst 7 (a.fields.map fD)]) (by rfl) (vD_cells a)
  · rfl
  · (try dsimp only [zS, zN, zH, zT]); try exact rfl
  apply al_stepN
  · exact op_box_elt (cs := [I b.kind, TF b.yes, .v (.int .i64 b.num), S b.text, .lst 6 (b.list.map vD), .lst 7 (b.fields.map fD)]) (by rfl) (vD_cells b)
  · rfl
  · (try dsimp only [zS, zN, zH, zT]); try exact rfl
  apply al_stepN
  · exact op_assign_const (by rfl)
  · rfl
  · (try dsimp only [zS, zN, zH, zT]); try exact rfl
  apply al_end
  · (try dsimp only [zS, zN, zH, zT]); try exact rfl
  refine then_normal ?_
  refine aw_seq ?_
  refine aw_seq ?_
  refine aw_region ?_
  apply al_stepN
  · exact op_callF Try.func40 (by rfl) (by rfl) .nil (vhead_ok _)
  · rfl
  · (try dsimp only [zS, zN, zH, zT]); try exact rfl
  apply al_stepN
  · exact op_not (by rfl)
  · rfl
  · (try dsimp only [zS, zN, zH, zT]); try exact rfl
  apply al_end
  · (try dsimp only [zS, zN, zH, zT]); try exact rfl
  refine then_normal ?_
  refine aw_cond rfl (fun hc1 => ?_) (fun hc1 => ?_)
  · skip
    (try simp only [decide_eq_true_eq, decide_eq_false_iff_not, beq_iff_eq, beq_eq_false_iff_ne, Bool.not_eq_true', Bool.not_eq_false', bne_iff_ne, ne_eq, Decidable.not_not, bne_eq_false_iff_eq, List.length_map] at hc1)
    exact absurd hc1 (by decide)
  · skip
    (try simp only [decide_eq_true_eq, decide_eq_false_iff_not, beq_iff_eq, beq_eq_false_iff_ne, Bool.not_eq_true', Bool.not_eq_false', bne_iff_ne, ne_eq, Decidable.not_not, bne_eq_false_iff_eq, List.length_map] at hc1)
    refine aw_skip ?_
    refine then_normal ?_
    refine aw_seq ?_
    refine aw_seq ?_
    refine aw_region ?_
    apply al_stepN
    · exact op_load_elts (ds := vC a) Try.underlying37 (by rfl) Sz37 (by rfl) (Nat.le_of_ble_eq_true rfl) (by rw [vC_eq]; rfl)
    · rfl
    · (try dsimp only [zS, zN, zH, zT]); try exact rfl
    apply al_stepN
    · exact op_callF Try.func20 (by rfl) (by rfl) (.tmp (by rfl) (.const (by rfl) .nil)) (few_ok 7 a (by decide) _)
    · rfl
    · (try dsimp only [zS, zN, zH, zT]); try exact rfl
    apply al_stepN
    · exact op_not (by rfl)
    · rfl
    · (try dsimp only [zS, zN, zH, zT]); try exact rfl
    apply al_stepN
    · exact op_move_tmp (by rfl)
    · rfl
    · (try dsimp only [zS, zN, zH, zT]); try exact rfl
    refine al_split 16 rfl (fun hg2 => ?_) (fun hg2 => ?_)
    · skip
      (try simp only [decide_eq_true_eq, decide_eq_false_iff_not, beq_iff_eq, beq_eq_false_iff_ne, Bool.not_eq_true', Bool.not_eq_false', bne_iff_ne, ne_eq, Decidable.not_not, bne_eq_false_iff_eq, List.length_map] at hg2)
      apply al_normT
      · (try dsimp only [zS, zN, zH, zT]); try exact rfl
      refine al_unwanted rfl rfl rfl rfl ?_
      apply al_normT
      · (try dsimp only [zS, zN, zH, zT]); try exact rfl
      refine al_unwanted rfl rfl rfl rfl ?_
      apply al_normT
      · (try dsimp only [zS, zN, zH, zT]); try exact rfl
      refine al_unwanted rfl rfl rfl rfl ?_
      apply al_normT
      · (try dsimp only [zS, zN, zH, zT]); try exact rfl
      apply al_stepN
      · exact op_pick_tt (by rfl) (val_const (by rfl))
      · rfl
      · (try dsimp only [zS, zN, zH, zT]); try exact rfl
      apply al_end
      · (try dsimp only [zS, zN, zH, zT]); try exact rfl
      refine then_normal ?_
      refine aw_cond rfl (fun _ => ?_) (fun h => by cases h)
      refine aw_seq ?_
      refine aw_region ?_
      apply al_stepN
      · exact op_assign_const (by rfl)
      · rfl
      · (try dsimp only [zS, zN, zH, zT]); try exact rfl
      apply al_end
      · (try dsimp only [zS, zN, zH, zT]); try exact rfl
      refine then_normal ?_
      refine aw_ret ?_
      refine then_ret ?_
      refine retPost1 rfl rfl ?_
      first | exact rfl | (rw [h2]; simp [TF]; done) | (simp [TF, h1, h2]; done)
    · skip
      (try simp only [decide_eq_true_eq, decide_eq_false_iff_not, beq_iff_eq, beq_eq_false_iff_ne, Bool.not_eq_true', Bool.not_eq_false', bne_iff_ne, ne_eq, Decidable.not_not, bne_eq_false_iff_eq, List.length_map] at hg2)
      have ha : fewV 7 a = true := by simpa using hg2
      apply al_normT
      · (try dsimp only [zS, zN, zH, zT]); try exact rfl
      apply al_wantedN
      · rfl
      · rfl
      · rfl
      · exact op_load_elts (ds := vC b) Try.underlying37 (by rfl) Sz37 (by rfl) (Nat.le_of_ble_eq_true rfl) (by rw [vC_eq]; rfl)
      · (try dsimp only [zS, zN, zH, zT]); try exact rfl
      apply al_wantedN
      · rfl
      · rfl
      · rfl
      · exact op_callF Try.func20 (by rfl) (by rfl) (.tmp (by rfl) (.const (by rfl) .nil)) (few_ok 7 b (by decide) _)
      · (try dsimp only [zS, zN, zH, zT]); try exact rfl
      apply al_wantedN
      · rfl
      · rfl
      · rfl
      · exact op_not (by rfl)
      · (try dsimp only [zS, zN, zH, zT]); try exact rfl
      apply al_stepN
      · exact op_pick_ff (by rfl) (val_tmp (by rfl))
      · rfl
      · (try dsimp only [zS, zN, zH, zT]); try exact rfl
      apply al_end
      · (try dsimp only [zS, zN, zH, zT]); try exact rfl
      refine then_normal ?_
      refine aw_cond rfl (fun hc4 => ?_) (fun hc4 => ?_)
      · skip
        (try simp only [decide_eq_true_eq, decide_eq_false_iff_not, beq_iff_eq, beq_eq_false_iff_ne, Bool.not_eq_true', Bool.not_eq_false', bne_iff_ne, ne_eq, Decidable.not_not, bne_eq_false_iff_eq, List.length_map] at hc4)
        refine aw_seq ?_
        refine aw_region ?_
        apply al_stepN
        · exact op_assign_const (by rfl)
        · rfl
        · (try dsimp only [zS, zN, zH, zT]); try exact rfl
        apply al_end
        · (try dsimp only [zS, zN, zH, zT]); try exact rfl
        refine then_normal ?_
        refine aw_ret ?_
        refine then_ret ?_
        refine retPost1 rfl rfl ?_
        first | exact rfl | (rw [h2]; simp [TF]; done) | (simp [TF, h1, h2]; done)
      · skip
        (try simp only [decide_eq_true_eq, decide_eq_false_iff_not, beq_iff_eq, beq_eq_false_iff_ne, Bool.not_eq_true', Bool.not_eq_false', bne_iff_ne, ne_eq, Decidable.not_not, bne_eq_false_iff_eq, List.length_map] at hc4)
        have hb : fewV 7 b = true := by simpa using hc4
        obtain ⟨ra, sa, va, ea⟩ := law_parts ha wa
        obtain ⟨rb, sb, vb, eb⟩ := law_parts hb wb
        obtain ⟨x, ea0, hOa⟩ : ∃ x e, encO (lawR a) = (x, e) := ⟨_, _, rfl⟩
        obtain ⟨y, eb0, hOb⟩ : ∃ x e, encO (lawR b) = (x, e) := ⟨_, _, rfl⟩
        refine aw_skip ?_
        refine then_normal ?_
        refine aw_seq ?_
        refine aw_region ?_
        apply al_stepN
        · exact op_load_elts (ds := vC a) Try.underlying37 (by rfl) Sz37 (by rfl) (Nat.le_of_ble_eq_true rfl) (by rw [vC_eq]; rfl)
        · rfl
        · (try dsimp only [zS, zN, zH, zT]); try exact rfl
        apply al_stepN
        · exact op_callF Try.func21 (by rfl) (by rfl) (.tmp (by rfl) .nil) (lawR_all 7 a ha _)
        · rfl
        · (try dsimp only [zS, zN, zH, zT]); try exact rfl
        apply al_stepN
        · exact op_callF Try.func43 (by rfl) (by rfl) (.tmp (by rfl) .nil) (venc_at hOa sa va ea)
        · rfl
        · (try dsimp only [zS, zN, zH, zT]); try exact rfl
        apply al_stepN
        · exact op_move_tmp (by rfl)
        · rfl
        · (try dsimp only [zS, zN, zH, zT]); try exact rfl
        apply al_stepN
        · exact op_extract (by rfl) (by rfl)
        · rfl
        · (try dsimp only [zS, zN, zH, zT]); try exact rfl
        apply al_stepN
        · exact op_extract (by rfl) (by rfl)
        · rfl
        · (try dsimp only [zS, zN, zH, zT]); try exact rfl
        apply al_stepN
        · exact op_assign_tmp (by rfl)
        · rfl
        · (try dsimp only [zS, zN, zH, zT]); try exact rfl
        apply al_stepN
        · exact op_assign_tmp (by rfl)
        · rfl
        · (try dsimp only [zS, zN, zH, zT]); try exact rfl
        apply al_end
        · (try dsimp only [zS, zN, zH, zT]); try exact rfl
        refine then_normal ?_
        refine aw_seq ?_
        refine aw_region ?_
        apply al_stepN
        · exact op_load_elts (ds := vC b) Try.underlying37 (by rfl) Sz37 (by rfl) (Nat.le_of_ble_eq_true rfl) (by rw [vC_eq]; rfl)
        · rfl
        · (try dsimp only [zS, zN, zH, zT]); try exact rfl
        apply al_stepN
        · exact op_callF Try.func21 (by rfl) (by rfl) (.tmp (by rfl) .nil) (lawR_all 7 b hb _)
        · rfl
        · (try dsimp only [zS, zN, zH, zT]); try exact rfl
        apply al_stepN
        · exact op_callF Try.func43 (by rfl) (by rfl) (.tmp (by rfl) .nil) (venc_at hOb sb vb eb)
        · rfl
        · (try dsimp only [zS, zN, zH, zT]); try exact rfl
        apply al_stepN
        · exact op_move_tmp (by rfl)
        · rfl
        · (try dsimp only [zS, zN, zH, zT]); try exact rfl
        apply al_stepN
        · exact op_extract (by rfl) (by rfl)
        · rfl
        · (try dsimp only [zS, zN, zH, zT]); try exact rfl
        apply al_stepN
        · exact op_extract (by rfl) (by rfl)
        · rfl
        · (try dsimp only [zS, zN, zH, zT]); try exact rfl
        apply al_stepN
        · exact op_assign_tmp (by rfl)
        · rfl
        · (try dsimp only [zS, zN, zH, zT]); try exact rfl
        apply al_stepN
        · exact op_assign_tmp (by rfl)
        · rfl
        · (try dsimp only [zS, zN, zH, zT]); try exact rfl
        apply al_end
        · (try dsimp only [zS, zN, zH, zT]); try exact rfl
        refine then_normal ?_
        refine aw_seq ?_
        refine aw_seq ?_
        refine aw_region ?_
        apply al_stepN
        · exact op_move_tmp (by rfl)
        · rfl
        · (try dsimp only [zS, zN, zH, zT]); try exact rfl
        apply al_stepN
        · exact op_neI (by rfl) (by rfl)
        · rfl
        · (try dsimp only [zS, zN, zH, zT]); try exact rfl
        apply al_stepN
        · exact op_move_tmp (by rfl)
        · rfl
        · (try dsimp only [zS, zN, zH, zT]); try exact rfl
        refine al_split 35 rfl (fun hg5 => ?_) (fun hg5 => ?_)
        · skip
          (try simp only [decide_eq_true_eq, decide_eq_false_iff_not, beq_iff_eq, beq_eq_false_iff_ne, Bool.not_eq_true', Bool.not_eq_false', bne_iff_ne, ne_eq, Decidable.not_not, bne_eq_false_iff_eq, List.length_map] at hg5)
          apply al_normT
          · (try dsimp only [zS, zN, zH, zT]); try exact rfl
          refine al_unwanted rfl rfl rfl rfl ?_
          apply al_normT
          · (try dsimp only [zS, zN, zH, zT]); try exact rfl
          refine al_unwanted rfl rfl rfl rfl ?_
          apply al_normT
          · (try dsimp only [zS, zN, zH, zT]); try exact rfl
          apply al_stepN
          · exact op_pick_tt (by rfl) (val_const (by rfl))
          · rfl
          · (try dsimp only [zS, zN, zH, zT]); try exact rfl
          apply al_end
          · (try dsimp only [zS, zN, zH, zT]); try exact rfl
          refine then_normal ?_
          refine aw_cond rfl (fun _ => ?_) (fun h => by cases h)
          refine aw_seq ?_
          refine aw_region ?_
          apply al_stepN
          · exact op_assign_const (by rfl)
          · rfl
          · (try dsimp only [zS, zN, zH, zT]); try exact rfl
          apply al_end
          · (try dsimp only [zS, zN, zH, zT]); try exact rfl
          refine then_normal ?_
          refine aw_ret ?_
          refine then_ret ?_
          refine retPost1 rfl rfl ?_
          first | exact rfl | (rw [h2]; simp [TF]; done) | (simp [TF, h1, h2]; done)
        · skip
          (try simp only [decide_eq_true_eq, decide_eq_false_iff_not, beq_iff_eq, beq_eq_false_iff_ne, Bool.not_eq_true', Bool.not_eq_false', bne_iff_ne, ne_eq, Decidable.not_not, bne_eq_false_iff_eq, List.length_map] at hg5)
          have he0 : ea0 = 0 := by simpa using hg5
          apply al_normT
          · (try dsimp only [zS, zN, zH, zT]); try exact rfl
          apply al_wantedN
          · rfl
          · rfl
          · rfl
          · exact op_move_tmp (by rfl)
          · (try dsimp only [zS, zN, zH, zT]); try exact rfl
          apply al_wantedN
          · rfl
          · rfl
          · rfl
          · exact op_neI (by rfl) (by rfl)
          · (try dsimp only [zS, zN, zH, zT]); try exact rfl
          apply al_stepN
          · exact op_pick_ff (by rfl) (val_tmp (by rfl))
          · rfl
          · (try dsimp only [zS, zN, zH, zT]); try exact rfl
          apply al_end
          · (try dsimp only [zS, zN, zH, zT]); try exact rfl
          refine then_normal ?_
          refine aw_cond rfl (fun hc7 => ?_) (fun hc7 => ?_)
          · skip
            (try simp only [decide_eq_true_eq, decide_eq_false_iff_not, beq_iff_eq, beq_eq_false_iff_ne, Bool.not_eq_true', Bool.not_eq_false', bne_iff_ne, ne_eq, Decidable.not_not, bne_eq_false_iff_eq, List.length_map] at hc7)
            refine aw_seq ?_
            refine aw_region ?_
            apply al_stepN
            · exact op_assign_const (by rfl)
            · rfl
            · (try dsimp only [zS, zN, zH, zT]); try exact rfl
            apply al_end
            · (try dsimp only [zS, zN, zH, zT]); try exact rfl
            refine then_normal ?_
            refine aw_ret ?_
            refine then_ret ?_
            refine retPost1 rfl rfl ?_
            first | exact rfl | (rw [h2]; simp [TF]; done) | (simp [TF, h1, h2]; done)
          · skip
            (try simp only [decide_eq_true_eq, decide_eq_false_iff_not, beq_iff_eq, beq_eq_false_iff_ne, Bool.not_eq_true', Bool.not_eq_false', bne_iff_ne, ne_eq, Decidable.not_not, bne_eq_false_iff_eq, List.length_map] at hc7)
            have hf0 : eb0 = 0 := by simpa using hc7
            obtain ⟨hyy, lb⟩ := encO_yes hOb rb hf0
            obtain ⟨hxx, la⟩ := encO_yes hOa ra he0
            obtain ⟨h1, h2⟩ := apart_all ra rb va vb la lb
            rw [← hxx, ← hyy] at h1 h2
            refine aw_skip ?_
            refine then_normal ?_
            refine aw_seq ?_
            refine aw_region ?_
            apply al_stepN
            · exact op_move_tmp (by rfl)
            · rfl
            · (try dsimp only [zS, zN, zH, zT]); try exact rfl
            apply al_stepN
            · exact op_lenS Try.underlying9 (by rfl)
            · rfl
            · (try dsimp only [zS, zN, zH, zT]); try exact rfl
            apply al_stepN
            · exact op_move_tmp (by rfl)
            · rfl
            · (try dsimp only [zS, zN, zH, zT]); try exact rfl
            apply al_stepN
            · exact op_lenS Try.underlying9 (by rfl)
            · rfl
            · (try dsimp only [zS, zN, zH, zT]); try exact rfl
            apply al_stepN
            · exact op_minN (by rfl) (by rfl)
            · rfl
            · (try dsimp only [zS, zN, zH, zT]); try exact rfl
            apply al_stepN
            · exact op_assign_tmp (by rfl)
            · rfl
            · (try dsimp only [zS, zN, zH, zT]); try exact rfl
            apply al_end
            · (try dsimp only [zS, zN, zH, zT]); try exact rfl
            refine then_normal ?_
            refine aw_seq ?_
            refine aw_draw [1, 0, 1, 0, 0, 0] mixed (by kernel_rfl) ?_
            apply drun1
            · exact op_load_elts (ds := vC a) Try.underlying37 (by rfl) Sz37 (by rfl) (Nat.le_of_ble_eq_true rfl) (by rw [vC_eq]; rfl)
            · rfl
            apply drun_normT
            · (try dsimp only [zS, zN, zH, zT]); try exact rfl
            apply drun0
            · intro H; exact op_callF Try.func21 (by rfl) (by rfl) (.tmp (by rfl) .nil) (lawR_all 7 a ha _)
            · rfl
            apply drun_normT
            · (try dsimp only [zS, zN, zH, zT]); try exact rfl
            apply drun1
            · exact op_load_elts (ds := vC b) Try.underlying37 (by rfl) Sz37 (by rfl) (Nat.le_of_ble_eq_true rfl) (by rw [vC_eq]; rfl)
            · rfl
            apply drun_normT
            · (try dsimp only [zS, zN, zH, zT]); try exact rfl
            apply drun0
            · intro H; exact op_callF Try.func21 (by rfl) (by rfl) (.tmp (by rfl) .nil) (lawR_all 7 b hb _)
            · rfl
            apply drun_normT
            · (try dsimp only [zS, zN, zH, zT]); try exact rfl
            apply drun0
            · intro H; exact op_callF Try.func53 (by rfl) (by rfl) (.tmp (by rfl) (.tmp (by rfl) .nil)) (vsame_ok _ (lawR a) (lawR b) sa sb)
            · rfl
            apply drun_normT
            · (try dsimp only [zS, zN, zH, zT]); try exact rfl
            apply drun0
            · intro H; exact op_assign_tmp (by rfl)
            · rfl
            apply drun_normT
            · (try dsimp only [zS, zN, zH, zT]); try exact rfl
            apply drun_end
            · (try dsimp only [zS, zN, zH, zT]); try exact rfl
            refine then_normal ?_
            refine aw_seq ?_
            refine aw_draw [0, 0, 0, 0, 0, 0, 0, 0, 0, 0, 0, 0, 0, 0, 0, 0, 0] mixed (by kernel_rfl) ?_
            apply drun0
            · intro H; exact op_move_tmp (by rfl)
            · rfl
            apply drun_normT
            · (try dsimp only [zS, zN, zH, zT]); try exact rfl
            apply drun0
            · intro H; exact op_move_tmp (by rfl)
            · rfl
            apply drun_normT
            · (try dsimp only [zS, zN, zH, zT]); try exact rfl
            apply drun0
            · intro H; exact op_eqS (by rfl) (by rfl)
            · rfl
            apply drun_normT
            · (try dsimp only [zS, zN, zH, zT]); try exact rfl
            apply drun0
            · intro H; exact op_move_tmp (by rfl)
            · rfl
            apply drun_normT
            · (try dsimp only [zS, zN, zH, zT]); try exact rfl
            apply drun0
            · intro H; exact op_eqB Try.underlying4 (by rfl) (by rfl)
            · rfl
            apply drun_normT
            · (try dsimp only [zS, zN, zH, zT]); try exact rfl
            apply drun0
            · intro H; exact op_move_tmp (by rfl)
            · rfl
            apply drun_normT
            · (try dsimp only [zS, zN, zH, zT]); try exact rfl
            refine drun_split 54 rfl (fun hg8 => ?_) (fun hg8 => ?_)
            · skip
              (try simp only [decide_eq_true_eq, decide_eq_false_iff_not, beq_iff_eq, beq_eq_false_iff_ne, Bool.not_eq_true', Bool.not_eq_false', bne_iff_ne, ne_eq, Decidable.not_not, bne_eq_false_iff_eq, List.length_map] at hg8)
              apply drun_normT
              · (try dsimp only [zS, zN, zH, zT]); try exact rfl
              apply drun0w
              · rfl
              · rfl
              · rfl
              · intro H; exact op_move_tmp (by rfl)
              apply drun_normT
              · (try dsimp only [zS, zN, zH, zT]); try exact rfl
              apply drun0w
              · rfl
              · rfl
              · rfl
              · intro H; exact op_move_tmp (by rfl)
              apply drun_normT
              · (try dsimp only [zS, zN, zH, zT]); try exact rfl
              apply drun0w
              · rfl
              · rfl
              · rfl
              · intro H; exact op_sliceS0 (x.take (min x.length y.length)) Try.underlying9 (by rfl) (by rfl) (by omega) (by omega) (by rfl)
              apply drun_normT
              · (try dsimp only [zS, zN, zH, zT]); try exact rfl
              apply drun0w
              · rfl
              · rfl
              · rfl
              · intro H; exact op_move_tmp (by rfl)
              apply drun_normT
              · (try dsimp only [zS, zN, zH, zT]); try exact rfl
              apply drun0w
              · rfl
              · rfl
              · rfl
              · intro H; exact op_move_tmp (by rfl)
              apply drun_normT
              · (try dsimp only [zS, zN, zH, zT]); try exact rfl
              apply drun0w
              · rfl
              · rfl
              · rfl
              · intro H; exact op_sliceS0 (y.take (min x.length y.length)) Try.underlying9 (by rfl) (by rfl) (by omega) (by omega) (by rfl)
              apply drun_normT
              · (try dsimp only [zS, zN, zH, zT]); try exact rfl
              apply drun0w
              · rfl
              · rfl
              · rfl
              · intro H; exact op_eqS (by rfl) (by rfl)
              apply drun_normT
              · (try dsimp only [zS, zN, zH, zT]); try exact rfl
              apply drun0w
              · rfl
              · rfl
              · rfl
              · intro H; exact op_move_tmp (by rfl)
              apply drun_normT
              · (try dsimp only [zS, zN, zH, zT]); try exact rfl
              apply drun0w
              · rfl
              · rfl
              · rfl
              · intro H; exact op_eqB Try.underlying4 (by rfl) (by rfl)
              apply drun_normT
              · (try dsimp only [zS, zN, zH, zT]); try exact rfl
              apply drun0
              · intro H; exact op_pick_tt (by rfl) (val_tmp (by rfl))
              · rfl
              apply drun_normT
              · (try dsimp only [zS, zN, zH, zT]); try exact rfl
              apply drun0
              · intro H; exact op_assign_tmp (by rfl)
              · rfl
              apply drun_normT
              · (try dsimp only [zS, zN, zH, zT]); try exact rfl
              apply drun_end
              · (try dsimp only [zS, zN, zH, zT]); try exact rfl
              refine then_normal ?_
              refine aw_ret ?_
              refine retPost1 rfl rfl ?_
              first | exact rfl | (rw [h2]; simp [TF]; done) | (simp [TF, h1, h2]; done)
            · skip
              (try simp only [decide_eq_true_eq, decide_eq_false_iff_not, beq_iff_eq, beq_eq_false_iff_ne, Bool.not_eq_true', Bool.not_eq_false', bne_iff_ne, ne_eq, Decidable.not_not, bne_eq_false_iff_eq, List.length_map] at hg8)
              apply drun_normT
              · (try dsimp only [zS, zN, zH, zT]); try exact rfl
              exact absurd hg8 (by simp [h1])
end Go.Proofs.Ytadkehaagkjbhaa
