/- What the law SchemaParts comes to. -/
import Derived.Test.YtadkehaagkjbhaaKeysE
import Derived.Test.YtadkehaagkjbhaaValLf
import Derived.Test.YtadkehaagkjbhaaValRt
import Derived.KernelRfl
namespace Go.Proofs.Ytadkehaagkjbhaa
open Go.AV Go.AV.Ord Go.AV.Oct Go.AV.Val Go.AV.Sch
set_option linter.unusedVariables false
set_option linter.unusedSimpArgs false
theorem vtypes : VTypes Try.prog 37 89 33 4 2 9 34 35 where
  v := ⟨_, Try.underlying37, ⟨_, rfl, rfl, rfl⟩, ⟨_, rfl, rfl, rfl⟩, ⟨_, rfl, rfl, rfl⟩, ⟨_, rfl, rfl, rfl⟩, ⟨_, rfl, rfl, rfl⟩, ⟨_, rfl, rfl, rfl⟩, rfl⟩
  f := ⟨_, Try.underlying89, ⟨_, rfl, rfl, rfl⟩, ⟨_, rfl, rfl, rfl⟩, rfl⟩
  k := Try.underlying33
  b := Try.underlying4
  i := Try.underlying2
  s := Try.underlying9
  l := Try.underlying34
  m := Try.underlying35
  cV := by kernel_rfl
  cF := by kernel_rfl
  cK := by kernel_rfl
  cB := by kernel_rfl
  cI := by kernel_rfl
  cS := by kernel_rfl
  cL := by kernel_rfl
  cM := by kernel_rfl
theorem ctypes : CTypes Try.prog 25 32 9 4 23 where
  c := ⟨_, Try.underlying25, ⟨_, rfl, rfl, rfl⟩, ⟨_, rfl, rfl, rfl⟩, rfl⟩
  x := ⟨_, Try.underlying32, ⟨_, rfl, rfl, rfl⟩, ⟨_, rfl, rfl, rfl⟩, ⟨_, rfl, rfl, rfl⟩, rfl⟩
  s := Try.underlying9
  b := Try.underlying4
  l := Try.underlying23
  cC := by kernel_rfl
  cX := by kernel_rfl
  cS := by kernel_rfl
  cB := by kernel_rfl
  cL := by kernel_rfl
set_option maxRecDepth 100000 in
theorem head_ok (Hs : HS) : ACalls Try.prog 15 [] Hs (Ret (.d (TF true)) Hs) := by
  refine acalls_of_aw Try.func15 rfl ?_
  refine aw_start (T' := [.un, .un, .un, .un]) rfl ?_
  refine aw_seq ?_
  refine aw_region ?_
  apply al_stepN
  · exact op_assign_const (by rfl)
  · rfl
  · (try dsimp only [zS, zN, zH, zT]); try exact rfl
  apply al_end
  · (try dsimp only [zS, zN, zH, zT]); try exact rfl
  refine then_normal ?_
  refine aw_seq ?_
  refine aw_region ?_
  apply al_stepN
  · exact op_buildD (pl := [(0, 1), (1, 1)]) [S [97], .v (.slice none 0 0)] Try.underlying25 Zr25 (by kernel_rfl) (by rfl) (by rfl) (by rfl) (by simp [DV.one, S])
  · rfl
  · (try dsimp only [zS, zN, zH, zT]); try exact rfl
  apply al_stepN
  · exact op_callF Try.func24 (by rfl) (by rfl) (.tmp (by rfl) .nil) (ckey_ok _ [97] (.v (.slice none 0 0)) (by decide))
  · rfl
  · (try dsimp only [zS, zN, zH, zT]); try exact rfl
  apply al_stepN
  · exact op_eqS (by rfl) (by rfl)
  · rfl
  · (try dsimp only [zS, zN, zH, zT]); try exact rfl
  apply al_stepN
  · exact op_assign_tmp (by rfl)
  · rfl
  · (try dsimp only [zS, zN, zH, zT]); try exact rfl
  apply al_end
  · (try dsimp only [zS, zN, zH, zT]); try exact rfl
  refine then_normal ?_
  refine aw_ret ?_
  refine retPost1 rfl rfl ?_
  exact ⟨rfl, rfl⟩
set_option maxRecDepth 100000 in
theorem schemaParts_walk (Hs : HS) (an : List UInt8) (ai : List Ix) (bn : List UInt8) (bi : List Ix) (x y : Ix) (v : V) (id other : List UInt8) (la : ai.length ≤ 9223372036854775807) (lb : bi.length ≤ 9223372036854775807) (wv : WfV v) : ACalls Try.prog 4 [.d (.agg [S an, .lst 3 (ai.map ixD)]), .d (.agg [S bn, .lst 3 (bi.map ixD)]), .d (ixD x), .d (ixD y), .d (.agg (vC v)), .d (S id), .d (S other)] Hs (fun av _ => av = .d (TF true)) := by
  refine acalls_of_aw Try.func4 rfl ?_
  refine aw_start (T' := ((.d (.agg [S an, .lst 3 (ai.map ixD)])) :: (.d (.agg [S bn, .lst 3 (bi.map ixD)])) :: (.d (ixD x)) :: (.d (ixD y)) :: (.d (.agg (vC v))) :: (.d (S id)) :: (.d (S other)) :: .un :: .un :: .un :: .un :: .un :: .un :: .un :: .un :: .un :: .un :: .un :: .un :: .un :: .un :: .un :: .un :: .un :: .un :: .un :: .un :: .un :: .un :: .un :: .un :: .un :: .un :: .un :: .un :: .un :: .un :: .un :: .un :: .un :: .un :: .un :: .un :: .un :: .un :: .un :: .un :: .un :: .un :: .un :: .un :: .un :: .un :: .un :: .un :: .un :: .un :: .un :: .un :: .un :: .un :: .un :: .un :: .un :: .un :: .un :: .un :: .un :: .un :: .un :: .un :: .un :: .un :: .un :: .un :: .un :: .un :: .un :: .un :: .un :: .un :: .un :: .un :: .un :: .un :: .un :: .un :: .un :: .un :: .un :: .un :: .un :: .un :: .un :: .un :: .un :: .un :: .un :: .un :: .un :: .un :: .un :: .un :: .un :: .un :: .un :: .un :: .un :: .un :: .un :: .un :: .un :: .un :: .un :: .un :: .un :: .un :: .un :: .un :: .un :: .un :: .un :: .un :: .un :: .un :: .un :: .un :: [])) rfl ?_
  refine aw_seq ?_
  refine aw_region ?_
  apply al_stepN
  · exact op_box_elt (by rfl) (by rfl)
  · rfl
  · (try dsimp only [zS, zN, zH, zT]); try exact rfl
  apply al_stepN
  · exact op_box_elt (by rfl) (by rfl)
  · rfl
  · (try dsimp only [zS, zN, zH, zT]); try exact rfl
  apply al_stepN
  · exact op_box_elt (by rfl) (by rfl)
  · rfl
  · (try dsimp only [zS, zN, zH, zT]); try exact rfl
  apply al_stepN
  · exact op_box_elt (by rfl) (by rfl)
  · rfl
  · (try dsimp only [zS, zN, zH, zT]); try exact rfl
  apply al_stepN
  · exact op_box_ptr (cs := (vC v).map .d) (by intro h; cases h) (by rfl)
  · rfl
  · (try dsimp only [zS, zN, zH, zT]); try exact rfl
  apply al_stepN
  · exact op_assign_const (by rfl)
  · rfl
  · (try dsimp only [zS, zN, zH, zT]); try exact rfl
  apply al_end
  · (try dsimp only [zS, zN, zH, zT]); try exact rfl
  refine then_normal ?_
  refine aw_seq ?_
  refine aw_seq ?_
  refine aw_region ?_
  apply al_stepN
  · exact op_callF Try.func15 (by rfl) (by rfl) .nil (head_ok _)
  · rfl
  · (try dsimp only [zS, zN, zH, zT]); try exact rfl
  apply al_stepN
  · exact op_not (by rfl)
  · rfl
  · (try dsimp only [zS, zN, zH, zT]); try exact rfl
  apply al_end
  · (try dsimp only [zS, zN, zH, zT]); try exact rfl
  refine then_normal ?_
  refine aw_cond rfl (fun hc1 => ?_) (fun hc1 => ?_)
  · skip
    (try simp only [decide_eq_true_eq, decide_eq_false_iff_not, beq_iff_eq, beq_eq_false_iff_ne, Bool.not_eq_true', Bool.not_eq_false', bne_iff_ne, ne_eq, Decidable.not_not, bne_eq_false_iff_eq, List.length_map] at hc1)
    exact absurd hc1 (by decide)
  · skip
    (try simp only [decide_eq_true_eq, decide_eq_false_iff_not, beq_iff_eq, beq_eq_false_iff_ne, Bool.not_eq_true', Bool.not_eq_false', bne_iff_ne, ne_eq, Decidable.not_not, bne_eq_false_iff_eq, List.length_map] at hc1)
    refine aw_skip ?_
    refine then_normal ?_
    refine aw_seq ?_
    refine aw_seq ?_
    refine aw_region ?_
    apply al_stepN
    · exact op_load_elts (ds := [S an, .lst 3 (ai.map ixD)]) Try.underlying25 (by rfl) Sz25 (by rfl) (Nat.le_of_ble_eq_true rfl) (by rfl)
    · rfl
    · (try dsimp only [zS, zN, zH, zT]); try exact rfl
    apply al_stepN
    · exact op_callF Try.func19 (by rfl) (by rfl) (.tmp (by rfl) .nil) (cfew_ok _ an ai la)
    · rfl
    · (try dsimp only [zS, zN, zH, zT]); try exact rfl
    apply al_stepN
    · exact op_not (by rfl)
    · rfl
    · (try dsimp only [zS, zN, zH, zT]); try exact rfl
    apply al_stepN
    · exact op_move_tmp (by rfl)
    · rfl
    · (try dsimp only [zS, zN, zH, zT]); try exact rfl
    refine al_split 23 rfl (fun hg2 => ?_) (fun hg2 => ?_)
    · skip
      (try simp only [decide_eq_true_eq, decide_eq_false_iff_not, beq_iff_eq, beq_eq_false_iff_ne, Bool.not_eq_true', Bool.not_eq_false', bne_iff_ne, ne_eq, Decidable.not_not, bne_eq_false_iff_eq, List.length_map] at hg2)
      apply al_normT
      · (try dsimp only [zS, zN, zH, zT]); try exact rfl
      refine al_unwanted rfl rfl rfl rfl ?_
      apply al_normT
      · (try dsimp only [zS, zN, zH, zT]); try exact rfl
      refine al_unwanted rfl rfl rfl rfl ?_
      apply al_normT
      · (try dsimp only [zS, zN, zH, zT]); try exact rfl
      refine al_unwanted rfl rfl rfl rfl ?_
      apply al_normT
      · (try dsimp only [zS, zN, zH, zT]); try exact rfl
      apply al_stepN
      · exact op_pick_tt (by rfl) (val_const (by rfl))
      · rfl
      · (try dsimp only [zS, zN, zH, zT]); try exact rfl
      apply al_stepN
      · exact op_move_tmp (by rfl)
      · rfl
      · (try dsimp only [zS, zN, zH, zT]); try exact rfl
      refine al_unwanted rfl rfl rfl rfl ?_
      apply al_normT
      · (try dsimp only [zS, zN, zH, zT]); try exact rfl
      refine al_unwanted rfl rfl rfl rfl ?_
      apply al_normT
      · (try dsimp only [zS, zN, zH, zT]); try exact rfl
      refine al_unwanted rfl rfl rfl rfl ?_
      apply al_normT
      · (try dsimp only [zS, zN, zH, zT]); try exact rfl
      refine al_unwanted rfl rfl rfl rfl ?_
      apply al_normT
      · (try dsimp only [zS, zN, zH, zT]); try exact rfl
      apply al_stepN
      · exact op_pick_tt (by rfl) (val_const (by rfl))
      · rfl
      · (try dsimp only [zS, zN, zH, zT]); try exact rfl
      apply al_stepN
      · exact op_move_tmp (by rfl)
      · rfl
      · (try dsimp only [zS, zN, zH, zT]); try exact rfl
      refine al_unwanted rfl rfl rfl rfl ?_
      apply al_normT
      · (try dsimp only [zS, zN, zH, zT]); try exact rfl
      refine al_unwanted rfl rfl rfl rfl ?_
      apply al_normT
      · (try dsimp only [zS, zN, zH, zT]); try exact rfl
      refine al_unwanted rfl rfl rfl rfl ?_
      apply al_normT
      · (try dsimp only [zS, zN, zH, zT]); try exact rfl
      refine al_unwanted rfl rfl rfl rfl ?_
      apply al_normT
      · (try dsimp only [zS, zN, zH, zT]); try exact rfl
      apply al_stepN
      · exact op_pick_tt (by rfl) (val_const (by rfl))
      · rfl
      · (try dsimp only [zS, zN, zH, zT]); try exact rfl
      apply al_stepN
      · exact op_move_tmp (by rfl)
      · rfl
      · (try dsimp only [zS, zN, zH, zT]); try exact rfl
      refine al_unwanted rfl rfl rfl rfl ?_
      apply al_normT
      · (try dsimp only [zS, zN, zH, zT]); try exact rfl
      refine al_unwanted rfl rfl rfl rfl ?_
      apply al_normT
      · (try dsimp only [zS, zN, zH, zT]); try exact rfl
      refine al_unwanted rfl rfl rfl rfl ?_
      apply al_normT
      · (try dsimp only [zS, zN, zH, zT]); try exact rfl
      apply al_stepN
      · exact op_pick_tt (by rfl) (val_const (by rfl))
      · rfl
      · (try dsimp only [zS, zN, zH, zT]); try exact rfl
      apply al_stepN
      · exact op_move_tmp (by rfl)
      · rfl
      · (try dsimp only [zS, zN, zH, zT]); try exact rfl
      refine al_unwanted rfl rfl rfl rfl ?_
      apply al_normT
      · (try dsimp only [zS, zN, zH, zT]); try exact rfl
      refine al_unwanted rfl rfl rfl rfl ?_
      apply al_normT
      · (try dsimp only [zS, zN, zH, zT]); try exact rfl
      refine al_unwanted rfl rfl rfl rfl ?_
      apply al_normT
      · (try dsimp only [zS, zN, zH, zT]); try exact rfl
      apply al_stepN
      · exact op_pick_tt (by rfl) (val_const (by rfl))
      · rfl
      · (try dsimp only [zS, zN, zH, zT]); try exact rfl
      apply al_stepN
      · exact op_move_tmp (by rfl)
      · rfl
      · (try dsimp only [zS, zN, zH, zT]); try exact rfl
      refine al_unwanted rfl rfl rfl rfl ?_
      apply al_normT
      · (try dsimp only [zS, zN, zH, zT]); try exact rfl
      refine al_unwanted rfl rfl rfl rfl ?_
      apply al_normT
      · (try dsimp only [zS, zN, zH, zT]); try exact rfl
      refine al_unwanted rfl rfl rfl rfl ?_
      apply al_normT
      · (try dsimp only [zS, zN, zH, zT]); try exact rfl
      apply al_stepN
      · exact op_pick_tt (by rfl) (val_const (by rfl))
      · rfl
      · (try dsimp only [zS, zN, zH, zT]); try exact rfl
      apply al_stepN
      · exact op_move_tmp (by rfl)
      · rfl
      · (try dsimp only [zS, zN, zH, zT]); try exact rfl
      refine al_unwanted rfl rfl rfl rfl ?_
      apply al_normT
      · (try dsimp only [zS, zN, zH, zT]); try exact rfl
      refine al_unwanted rfl rfl rfl rfl ?_
      apply al_normT
      · (try dsimp only [zS, zN, zH, zT]); try exact rfl
      refine al_unwanted rfl rfl rfl rfl ?_
      apply al_normT
      · (try dsimp only [zS, zN, zH, zT]); try exact rfl
      refine al_unwanted rfl rfl rfl rfl ?_
      apply al_normT
      · (try dsimp only [zS, zN, zH, zT]); try exact rfl
      refine al_unwanted rfl rfl rfl rfl ?_
      apply al_normT
      · (try dsimp only [zS, zN, zH, zT]); try exact rfl
      apply al_stepN
      · exact op_pick_tt (by rfl) (val_const (by rfl))
      · rfl
      · (try dsimp only [zS, zN, zH, zT]); try exact rfl
      apply al_end
      · (try dsimp only [zS, zN, zH, zT]); try exact rfl
      refine then_normal ?_
      refine aw_cond rfl (fun _ => ?_) (fun h => by cases h)
      refine aw_seq ?_
      refine aw_region ?_
      apply al_stepN
      · exact op_assign_const (by rfl)
      · rfl
      · (try dsimp only [zS, zN, zH, zT]); try exact rfl
      apply al_end
      · (try dsimp only [zS, zN, zH, zT]); try exact rfl
      refine then_normal ?_
      refine aw_ret ?_
      refine then_ret ?_
      refine retPost1 rfl rfl ?_
      first | exact rfl | (simp [TF, p7]; done)
    · skip
      (try simp only [decide_eq_true_eq, decide_eq_false_iff_not, beq_iff_eq, beq_eq_false_iff_ne, Bool.not_eq_true', Bool.not_eq_false', bne_iff_ne, ne_eq, Decidable.not_not, bne_eq_false_iff_eq, List.length_map] at hg2)
      have fa : fewC an ai = true := by simpa using hg2
      obtain ⟨a12, an60⟩ := fewC_parts fa
      apply al_normT
      · (try dsimp only [zS, zN, zH, zT]); try exact rfl
      apply al_wantedN
      · rfl
      · rfl
      · rfl
      · exact op_load_elts (ds := [S bn, .lst 3 (bi.map ixD)]) Try.underlying25 (by rfl) Sz25 (by rfl) (Nat.le_of_ble_eq_true rfl) (by rfl)
      · (try dsimp only [zS, zN, zH, zT]); try exact rfl
      apply al_wantedN
      · rfl
      · rfl
      · rfl
      · exact op_callF Try.func19 (by rfl) (by rfl) (.tmp (by rfl) .nil) (cfew_ok _ bn bi lb)
      · (try dsimp only [zS, zN, zH, zT]); try exact rfl
      apply al_wantedN
      · rfl
      · rfl
      · rfl
      · exact op_not (by rfl)
      · (try dsimp only [zS, zN, zH, zT]); try exact rfl
      apply al_stepN
      · exact op_pick_ff (by rfl) (val_tmp (by rfl))
      · rfl
      · (try dsimp only [zS, zN, zH, zT]); try exact rfl
      apply al_stepN
      · exact op_move_tmp (by rfl)
      · rfl
      · (try dsimp only [zS, zN, zH, zT]); try exact rfl
      refine al_split 28 rfl (fun hg4 => ?_) (fun hg4 => ?_)
      · skip
        (try simp only [decide_eq_true_eq, decide_eq_false_iff_not, beq_iff_eq, beq_eq_false_iff_ne, Bool.not_eq_true', Bool.not_eq_false', bne_iff_ne, ne_eq, Decidable.not_not, bne_eq_false_iff_eq, List.length_map] at hg4)
        apply al_normT
        · (try dsimp only [zS, zN, zH, zT]); try exact rfl
        refine al_unwanted rfl rfl rfl rfl ?_
        apply al_normT
        · (try dsimp only [zS, zN, zH, zT]); try exact rfl
        refine al_unwanted rfl rfl rfl rfl ?_
        apply al_normT
        · (try dsimp only [zS, zN, zH, zT]); try exact rfl
        refine al_unwanted rfl rfl rfl rfl ?_
        apply al_normT
        · (try dsimp only [zS, zN, zH, zT]); try exact rfl
        refine al_unwanted rfl rfl rfl rfl ?_
        apply al_normT
        · (try dsimp only [zS, zN, zH, zT]); try exact rfl
        apply al_stepN
        · exact op_pick_tt (by rfl) (val_const (by rfl))
        · rfl
        · (try dsimp only [zS, zN, zH, zT]); try exact rfl
        apply al_stepN
        · exact op_move_tmp (by rfl)
        · rfl
        · (try dsimp only [zS, zN, zH, zT]); try exact rfl
        refine al_unwanted rfl rfl rfl rfl ?_
        apply al_normT
        · (try dsimp only [zS, zN, zH, zT]); try exact rfl
        refine al_unwanted rfl rfl rfl rfl ?_
        apply al_normT
        · (try dsimp only [zS, zN, zH, zT]); try exact rfl
        refine al_unwanted rfl rfl rfl rfl ?_
        apply al_normT
        · (try dsimp only [zS, zN, zH, zT]); try exact rfl
        refine al_unwanted rfl rfl rfl rfl ?_
        apply al_normT
        · (try dsimp only [zS, zN, zH, zT]); try exact rfl
        apply al_stepN
        · exact op_pick_tt (by rfl) (val_const (by rfl))
        · rfl
        · (try dsimp only [zS, zN, zH, zT]); try exact rfl
        apply al_stepN
        · exact op_move_tmp (by rfl)
        · rfl
        · (try dsimp only [zS, zN, zH, zT]); try exact rfl
        refine al_unwanted rfl rfl rfl rfl ?_
        apply al_normT
        · (try dsimp only [zS, zN, zH, zT]); try exact rfl
        refine al_unwanted rfl rfl rfl rfl ?_
        apply al_normT
        · (try dsimp only [zS, zN, zH, zT]); try exact rfl
        refine al_unwanted rfl rfl rfl rfl ?_
        apply al_normT
        · (try dsimp only [zS, zN, zH, zT]); try exact rfl
        apply al_stepN
        · exact op_pick_tt (by rfl) (val_const (by rfl))
        · rfl
        · (try dsimp only [zS, zN, zH, zT]); try exact rfl
        apply al_stepN
        · exact op_move_tmp (by rfl)
        · rfl
        · (try dsimp only [zS, zN, zH, zT]); try exact rfl
        refine al_unwanted rfl rfl rfl rfl ?_
        apply al_normT
        · (try dsimp only [zS, zN, zH, zT]); try exact rfl
        refine al_unwanted rfl rfl rfl rfl ?_
        apply al_normT
        · (try dsimp only [zS, zN, zH, zT]); try exact rfl
        refine al_unwanted rfl rfl rfl rfl ?_
        apply al_normT
        · (try dsimp only [zS, zN, zH, zT]); try exact rfl
        apply al_stepN
        · exact op_pick_tt (by rfl) (val_const (by rfl))
        · rfl
        · (try dsimp only [zS, zN, zH, zT]); try exact rfl
        apply al_stepN
        · exact op_move_tmp (by rfl)
        · rfl
        · (try dsimp only [zS, zN, zH, zT]); try exact rfl
        refine al_unwanted rfl rfl rfl rfl ?_
        apply al_normT
        · (try dsimp only [zS, zN, zH, zT]); try exact rfl
        refine al_unwanted rfl rfl rfl rfl ?_
        apply al_normT
        · (try dsimp only [zS, zN, zH, zT]); try exact rfl
        refine al_unwanted rfl rfl rfl rfl ?_
        apply al_normT
        · (try dsimp only [zS, zN, zH, zT]); try exact rfl
        apply al_stepN
        · exact op_pick_tt (by rfl) (val_const (by rfl))
        · rfl
        · (try dsimp only [zS, zN, zH, zT]); try exact rfl
        apply al_stepN
        · exact op_move_tmp (by rfl)
        · rfl
        · (try dsimp only [zS, zN, zH, zT]); try exact rfl
        refine al_unwanted rfl rfl rfl rfl ?_
        apply al_normT
        · (try dsimp only [zS, zN, zH, zT]); try exact rfl
        refine al_unwanted rfl rfl rfl rfl ?_
        apply al_normT
        · (try dsimp only [zS, zN, zH, zT]); try exact rfl
        refine al_unwanted rfl rfl rfl rfl ?_
        apply al_normT
        · (try dsimp only [zS, zN, zH, zT]); try exact rfl
        refine al_unwanted rfl rfl rfl rfl ?_
        apply al_normT
        · (try dsimp only [zS, zN, zH, zT]); try exact rfl
        refine al_unwanted rfl rfl rfl rfl ?_
        apply al_normT
        · (try dsimp only [zS, zN, zH, zT]); try exact rfl
        apply al_stepN
        · exact op_pick_tt (by rfl) (val_const (by rfl))
        · rfl
        · (try dsimp only [zS, zN, zH, zT]); try exact rfl
        apply al_end
        · (try dsimp only [zS, zN, zH, zT]); try exact rfl
        refine then_normal ?_
        refine aw_cond rfl (fun _ => ?_) (fun h => by cases h)
        refine aw_seq ?_
        refine aw_region ?_
        apply al_stepN
        · exact op_assign_const (by rfl)
        · rfl
        · (try dsimp only [zS, zN, zH, zT]); try exact rfl
        apply al_end
        · (try dsimp only [zS, zN, zH, zT]); try exact rfl
        refine then_normal ?_
        refine aw_ret ?_
        refine then_ret ?_
        refine retPost1 rfl rfl ?_
        first | exact rfl | (simp [TF, p7]; done)
      · skip
        (try simp only [decide_eq_true_eq, decide_eq_false_iff_not, beq_iff_eq, beq_eq_false_iff_ne, Bool.not_eq_true', Bool.not_eq_false', bne_iff_ne, ne_eq, Decidable.not_not, bne_eq_false_iff_eq, List.length_map] at hg4)
        have fb : fewC bn bi = true := by simpa using hg4
        obtain ⟨b12, bn60⟩ := fewC_parts fb
        apply al_normT
        · (try dsimp only [zS, zN, zH, zT]); try exact rfl
        apply al_wantedN
        · rfl
        · rfl
        · rfl
        · first | exact op_fieldAddr_ptr Try.underlying32 rfl Sz9 (by rfl) (by rfl) | exact op_fieldAddr_elt Try.underlying32 rfl Sz9 (by rfl) (by rfl) (by rfl)
        · (try dsimp only [zS, zN, zH, zT]); try exact rfl
        apply al_wantedN
        · rfl
        · rfl
        · rfl
        · first | exact op_load_elt Try.underlying9 (by rfl) (by rfl) (by rfl) | exact op_load_ptr Try.underlying9 (by rfl) (by rfl) (by rfl) (by rfl)
        · (try dsimp only [zS, zN, zH, zT]); try exact rfl
        apply al_wantedN
        · rfl
        · rfl
        · rfl
        · exact op_lenS Try.underlying9 (by rfl)
        · (try dsimp only [zS, zN, zH, zT]); try exact rfl
        apply al_wantedN
        · rfl
        · rfl
        · rfl
        · exact op_gtI (by rfl) (by rfl)
        · (try dsimp only [zS, zN, zH, zT]); try exact rfl
        apply al_stepN
        · exact op_pick_ff (by rfl) (val_tmp (by rfl))
        · rfl
        · (try dsimp only [zS, zN, zH, zT]); try exact rfl
        apply al_stepN
        · exact op_move_tmp (by rfl)
        · rfl
        · (try dsimp only [zS, zN, zH, zT]); try exact rfl
        refine al_split 34 rfl (fun hg6 => ?_) (fun hg6 => ?_)
        · skip
          (try simp only [decide_eq_true_eq, decide_eq_false_iff_not, beq_iff_eq, beq_eq_false_iff_ne, Bool.not_eq_true', Bool.not_eq_false', bne_iff_ne, ne_eq, Decidable.not_not, bne_eq_false_iff_eq, List.length_map] at hg6)
          apply al_normT
          · (try dsimp only [zS, zN, zH, zT]); try exact rfl
          refine al_unwanted rfl rfl rfl rfl ?_
          apply al_normT
          · (try dsimp only [zS, zN, zH, zT]); try exact rfl
          refine al_unwanted rfl rfl rfl rfl ?_
          apply al_normT
          · (try dsimp only [zS, zN, zH, zT]); try exact rfl
          refine al_unwanted rfl rfl rfl rfl ?_
          apply al_normT
          · (try dsimp only [zS, zN, zH, zT]); try exact rfl
          refine al_unwanted rfl rfl rfl rfl ?_
          apply al_normT
          · (try dsimp only [zS, zN, zH, zT]); try exact rfl
          apply al_stepN
          · exact op_pick_tt (by rfl) (val_const (by rfl))
          · rfl
          · (try dsimp only [zS, zN, zH, zT]); try exact rfl
          apply al_stepN
          · exact op_move_tmp (by rfl)
          · rfl
          · (try dsimp only [zS, zN, zH, zT]); try exact rfl
          refine al_unwanted rfl rfl rfl rfl ?_
          apply al_normT
          · (try dsimp only [zS, zN, zH, zT]); try exact rfl
          refine al_unwanted rfl rfl rfl rfl ?_
          apply al_normT
          · (try dsimp only [zS, zN, zH, zT]); try exact rfl
          refine al_unwanted rfl rfl rfl rfl ?_
          apply al_normT
          · (try dsimp only [zS, zN, zH, zT]); try exact rfl
          apply al_stepN
          · exact op_pick_tt (by rfl) (val_const (by rfl))
          · rfl
          · (try dsimp only [zS, zN, zH, zT]); try exact rfl
          apply al_stepN
          · exact op_move_tmp (by rfl)
          · rfl
          · (try dsimp only [zS, zN, zH, zT]); try exact rfl
          refine al_unwanted rfl rfl rfl rfl ?_
          apply al_normT
          · (try dsimp only [zS, zN, zH, zT]); try exact rfl
          refine al_unwanted rfl rfl rfl rfl ?_
          apply al_normT
          · (try dsimp only [zS, zN, zH, zT]); try exact rfl
          refine al_unwanted rfl rfl rfl rfl ?_
          apply al_normT
          · (try dsimp only [zS, zN, zH, zT]); try exact rfl
          apply al_stepN
          · exact op_pick_tt (by rfl) (val_const (by rfl))
          · rfl
          · (try dsimp only [zS, zN, zH, zT]); try exact rfl
          apply al_stepN
          · exact op_move_tmp (by rfl)
          · rfl
          · (try dsimp only [zS, zN, zH, zT]); try exact rfl
          refine al_unwanted rfl rfl rfl rfl ?_
          apply al_normT
          · (try dsimp only [zS, zN, zH, zT]); try exact rfl
          refine al_unwanted rfl rfl rfl rfl ?_
          apply al_normT
          · (try dsimp only [zS, zN, zH, zT]); try exact rfl
          refine al_unwanted rfl rfl rfl rfl ?_
          apply al_normT
          · (try dsimp only [zS, zN, zH, zT]); try exact rfl
          apply al_stepN
          · exact op_pick_tt (by rfl) (val_const (by rfl))
          · rfl
          · (try dsimp only [zS, zN, zH, zT]); try exact rfl
          apply al_stepN
          · exact op_move_tmp (by rfl)
          · rfl
          · (try dsimp only [zS, zN, zH, zT]); try exact rfl
          refine al_unwanted rfl rfl rfl rfl ?_
          apply al_normT
          · (try dsimp only [zS, zN, zH, zT]); try exact rfl
          refine al_unwanted rfl rfl rfl rfl ?_
          apply al_normT
          · (try dsimp only [zS, zN, zH, zT]); try exact rfl
          refine al_unwanted rfl rfl rfl rfl ?_
          apply al_normT
          · (try dsimp only [zS, zN, zH, zT]); try exact rfl
          refine al_unwanted rfl rfl rfl rfl ?_
          apply al_normT
          · (try dsimp only [zS, zN, zH, zT]); try exact rfl
          refine al_unwanted rfl rfl rfl rfl ?_
          apply al_normT
          · (try dsimp only [zS, zN, zH, zT]); try exact rfl
          apply al_stepN
          · exact op_pick_tt (by rfl) (val_const (by rfl))
          · rfl
          · (try dsimp only [zS, zN, zH, zT]); try exact rfl
          apply al_end
          · (try dsimp only [zS, zN, zH, zT]); try exact rfl
          refine then_normal ?_
          refine aw_cond rfl (fun _ => ?_) (fun h => by cases h)
          refine aw_seq ?_
          refine aw_region ?_
          apply al_stepN
          · exact op_assign_const (by rfl)
          · rfl
          · (try dsimp only [zS, zN, zH, zT]); try exact rfl
          apply al_end
          · (try dsimp only [zS, zN, zH, zT]); try exact rfl
          refine then_normal ?_
          refine aw_ret ?_
          refine then_ret ?_
          refine retPost1 rfl rfl ?_
          first | exact rfl | (simp [TF, p7]; done)
        · skip
          (try simp only [decide_eq_true_eq, decide_eq_false_iff_not, beq_iff_eq, beq_eq_false_iff_ne, Bool.not_eq_true', Bool.not_eq_false', bne_iff_ne, ne_eq, Decidable.not_not, bne_eq_false_iff_eq, List.length_map] at hg6)
          have hx60 : x.name.length ≤ 60 := by have h : ¬ 60 < (x.name.length : Int) := hg6; omega
          apply al_normT
          · (try dsimp only [zS, zN, zH, zT]); try exact rfl
          apply al_wantedN
          · rfl
          · rfl
          · rfl
          · first | exact op_fieldAddr_ptr Try.underlying32 rfl Sz9 (by rfl) (by rfl) | exact op_fieldAddr_elt Try.underlying32 rfl Sz9 (by rfl) (by rfl) (by rfl)
          · (try dsimp only [zS, zN, zH, zT]); try exact rfl
          apply al_wantedN
          · rfl
          · rfl
          · rfl
          · first | exact op_load_elt Try.underlying9 (by rfl) (by rfl) (by rfl) | exact op_load_ptr Try.underlying9 (by rfl) (by rfl) (by rfl) (by rfl)
          · (try dsimp only [zS, zN, zH, zT]); try exact rfl
          apply al_wantedN
          · rfl
          · rfl
          · rfl
          · exact op_lenS Try.underlying9 (by rfl)
          · (try dsimp only [zS, zN, zH, zT]); try exact rfl
          apply al_wantedN
          · rfl
          · rfl
          · rfl
          · exact op_gtI (by rfl) (by rfl)
          · (try dsimp only [zS, zN, zH, zT]); try exact rfl
          apply al_stepN
          · exact op_pick_ff (by rfl) (val_tmp (by rfl))
          · rfl
          · (try dsimp only [zS, zN, zH, zT]); try exact rfl
          apply al_stepN
          · exact op_move_tmp (by rfl)
          · rfl
          · (try dsimp only [zS, zN, zH, zT]); try exact rfl
          refine al_split 40 rfl (fun hg8 => ?_) (fun hg8 => ?_)
          · skip
            (try simp only [decide_eq_true_eq, decide_eq_false_iff_not, beq_iff_eq, beq_eq_false_iff_ne, Bool.not_eq_true', Bool.not_eq_false', bne_iff_ne, ne_eq, Decidable.not_not, bne_eq_false_iff_eq, List.length_map] at hg8)
            apply al_normT
            · (try dsimp only [zS, zN, zH, zT]); try exact rfl
            refine al_unwanted rfl rfl rfl rfl ?_
            apply al_normT
            · (try dsimp only [zS, zN, zH, zT]); try exact rfl
            refine al_unwanted rfl rfl rfl rfl ?_
            apply al_normT
            · (try dsimp only [zS, zN, zH, zT]); try exact rfl
            refine al_unwanted rfl rfl rfl rfl ?_
            apply al_normT
            · (try dsimp only [zS, zN, zH, zT]); try exact rfl
            apply al_stepN
            · exact op_pick_tt (by rfl) (val_const (by rfl))
            · rfl
            · (try dsimp only [zS, zN, zH, zT]); try exact rfl
            apply al_stepN
            · exact op_move_tmp (by rfl)
            · rfl
            · (try dsimp only [zS, zN, zH, zT]); try exact rfl
            refine al_unwanted rfl rfl rfl rfl ?_
            apply al_normT
            · (try dsimp only [zS, zN, zH, zT]); try exact rfl
            refine al_unwanted rfl rfl rfl rfl ?_
            apply al_normT
            · (try dsimp only [zS, zN, zH, zT]); try exact rfl
            refine al_unwanted rfl rfl rfl rfl ?_
            apply al_normT
            · (try dsimp only [zS, zN, zH, zT]); try exact rfl
            apply al_stepN
            · exact op_pick_tt (by rfl) (val_const (by rfl))
            · rfl
            · (try dsimp only [zS, zN, zH, zT]); try exact rfl
            apply al_stepN
            · exact op_move_tmp (by rfl)
            · rfl
            · (try dsimp only [zS, zN, zH, zT]); try exact rfl
            refine al_unwanted rfl rfl rfl rfl ?_
            apply al_normT
            · (try dsimp only [zS, zN, zH, zT]); try exact rfl
            refine al_unwanted rfl rfl rfl rfl ?_
            apply al_normT
            · (try dsimp only [zS, zN, zH, zT]); try exact rfl
            refine al_unwanted rfl rfl rfl rfl ?_
            apply al_normT
            · (try dsimp only [zS, zN, zH, zT]); try exact rfl
            apply al_stepN
            · exact op_pick_tt (by rfl) (val_const (by rfl))
            · rfl
            · (try dsimp only [zS, zN, zH, zT]); try exact rfl
            apply al_stepN
            · exact op_move_tmp (by rfl)
            · rfl
            · (try dsimp only [zS, zN, zH, zT]); try exact rfl
            refine al_unwanted rfl rfl rfl rfl ?_
            apply al_normT
            · (try dsimp only [zS, zN, zH, zT]); try exact rfl
            refine al_unwanted rfl rfl rfl rfl ?_
            apply al_normT
            · (try dsimp only [zS, zN, zH, zT]); try exact rfl
            refine al_unwanted rfl rfl rfl rfl ?_
            apply al_normT
            · (try dsimp only [zS, zN, zH, zT]); try exact rfl
            refine al_unwanted rfl rfl rfl rfl ?_
            apply al_normT
            · (try dsimp only [zS, zN, zH, zT]); try exact rfl
            refine al_unwanted rfl rfl rfl rfl ?_
            apply al_normT
            · (try dsimp only [zS, zN, zH, zT]); try exact rfl
            apply al_stepN
            · exact op_pick_tt (by rfl) (val_const (by rfl))
            · rfl
            · (try dsimp only [zS, zN, zH, zT]); try exact rfl
            apply al_end
            · (try dsimp only [zS, zN, zH, zT]); try exact rfl
            refine then_normal ?_
            refine aw_cond rfl (fun _ => ?_) (fun h => by cases h)
            refine aw_seq ?_
            refine aw_region ?_
            apply al_stepN
            · exact op_assign_const (by rfl)
            · rfl
            · (try dsimp only [zS, zN, zH, zT]); try exact rfl
            apply al_end
            · (try dsimp only [zS, zN, zH, zT]); try exact rfl
            refine then_normal ?_
            refine aw_ret ?_
            refine then_ret ?_
            refine retPost1 rfl rfl ?_
            first | exact rfl | (simp [TF, p7]; done)
          · skip
            (try simp only [decide_eq_true_eq, decide_eq_false_iff_not, beq_iff_eq, beq_eq_false_iff_ne, Bool.not_eq_true', Bool.not_eq_false', bne_iff_ne, ne_eq, Decidable.not_not, bne_eq_false_iff_eq, List.length_map] at hg8)
            have hy60 : y.name.length ≤ 60 := by have h : ¬ 60 < (y.name.length : Int) := hg8; omega
            apply al_normT
            · (try dsimp only [zS, zN, zH, zT]); try exact rfl
            apply al_wantedN
            · rfl
            · rfl
            · rfl
            · exact op_load_ptrsD (vC v) Try.underlying37 (by rfl) Sz37 (by rfl) push_at (by show 0 + 6 ≤ ((vC v).map AV.d).length; rw [List.length_map, vC_len]; exact Nat.le_refl _) (by show (((vC v).map AV.d).drop 0).take 6 = _; rw [List.drop_zero, List.take_of_length_le (by rw [List.length_map, vC_len]; exact Nat.le_refl _)]) (vC_one v)
            · (try dsimp only [zS, zN, zH, zT]); try exact rfl
            apply al_wantedN
            · rfl
            · rfl
            · rfl
            · exact op_callF Try.func20 (by rfl) (by rfl) (.tmp (by rfl) (.const (by rfl) .nil)) (few_ok 7 v (by decide) _)
            · (try dsimp only [zS, zN, zH, zT]); try exact rfl
            apply al_wantedN
            · rfl
            · rfl
            · rfl
            · exact op_not (by rfl)
            · (try dsimp only [zS, zN, zH, zT]); try exact rfl
            apply al_stepN
            · exact op_pick_ff (by rfl) (val_tmp (by rfl))
            · rfl
            · (try dsimp only [zS, zN, zH, zT]); try exact rfl
            apply al_stepN
            · exact op_move_tmp (by rfl)
            · rfl
            · (try dsimp only [zS, zN, zH, zT]); try exact rfl
            refine al_split 45 rfl (fun hg10 => ?_) (fun hg10 => ?_)
            · skip
              (try simp only [decide_eq_true_eq, decide_eq_false_iff_not, beq_iff_eq, beq_eq_false_iff_ne, Bool.not_eq_true', Bool.not_eq_false', bne_iff_ne, ne_eq, Decidable.not_not, bne_eq_false_iff_eq, List.length_map] at hg10)
              apply al_normT
              · (try dsimp only [zS, zN, zH, zT]); try exact rfl
              refine al_unwanted rfl rfl rfl rfl ?_
              apply al_normT
              · (try dsimp only [zS, zN, zH, zT]); try exact rfl
              refine al_unwanted rfl rfl rfl rfl ?_
              apply al_normT
              · (try dsimp only [zS, zN, zH, zT]); try exact rfl
              refine al_unwanted rfl rfl rfl rfl ?_
              apply al_normT
              · (try dsimp only [zS, zN, zH, zT]); try exact rfl
              apply al_stepN
              · exact op_pick_tt (by rfl) (val_const (by rfl))
              · rfl
              · (try dsimp only [zS, zN, zH, zT]); try exact rfl
              apply al_stepN
              · exact op_move_tmp (by rfl)
              · rfl
              · (try dsimp only [zS, zN, zH, zT]); try exact rfl
              refine al_unwanted rfl rfl rfl rfl ?_
              apply al_normT
              · (try dsimp only [zS, zN, zH, zT]); try exact rfl
              refine al_unwanted rfl rfl rfl rfl ?_
              apply al_normT
              · (try dsimp only [zS, zN, zH, zT]); try exact rfl
              refine al_unwanted rfl rfl rfl rfl ?_
              apply al_normT
              · (try dsimp only [zS, zN, zH, zT]); try exact rfl
              apply al_stepN
              · exact op_pick_tt (by rfl) (val_const (by rfl))
              · rfl
              · (try dsimp only [zS, zN, zH, zT]); try exact rfl
              apply al_stepN
              · exact op_move_tmp (by rfl)
              · rfl
              · (try dsimp only [zS, zN, zH, zT]); try exact rfl
              refine al_unwanted rfl rfl rfl rfl ?_
              apply al_normT
              · (try dsimp only [zS, zN, zH, zT]); try exact rfl
              refine al_unwanted rfl rfl rfl rfl ?_
              apply al_normT
              · (try dsimp only [zS, zN, zH, zT]); try exact rfl
              refine al_unwanted rfl rfl rfl rfl ?_
              apply al_normT
              · (try dsimp only [zS, zN, zH, zT]); try exact rfl
              refine al_unwanted rfl rfl rfl rfl ?_
              apply al_normT
              · (try dsimp only [zS, zN, zH, zT]); try exact rfl
              refine al_unwanted rfl rfl rfl rfl ?_
              apply al_normT
              · (try dsimp only [zS, zN, zH, zT]); try exact rfl
              apply al_stepN
              · exact op_pick_tt (by rfl) (val_const (by rfl))
              · rfl
              · (try dsimp only [zS, zN, zH, zT]); try exact rfl
              apply al_end
              · (try dsimp only [zS, zN, zH, zT]); try exact rfl
              refine then_normal ?_
              refine aw_cond rfl (fun _ => ?_) (fun h => by cases h)
              refine aw_seq ?_
              refine aw_region ?_
              apply al_stepN
              · exact op_assign_const (by rfl)
              · rfl
              · (try dsimp only [zS, zN, zH, zT]); try exact rfl
              apply al_end
              · (try dsimp only [zS, zN, zH, zT]); try exact rfl
              refine then_normal ?_
              refine aw_ret ?_
              refine then_ret ?_
              refine retPost1 rfl rfl ?_
              first | exact rfl | (simp [TF, p7]; done)
            · skip
              (try simp only [decide_eq_true_eq, decide_eq_false_iff_not, beq_iff_eq, beq_eq_false_iff_ne, Bool.not_eq_true', Bool.not_eq_false', bne_iff_ne, ne_eq, Decidable.not_not, bne_eq_false_iff_eq, List.length_map] at hg10)
              have hf : fewV 7 v = true := by simpa using hg10
              apply al_normT
              · (try dsimp only [zS, zN, zH, zT]); try exact rfl
              apply al_wantedN
              · rfl
              · rfl
              · rfl
              · exact op_move_tmp (by rfl)
              · (try dsimp only [zS, zN, zH, zT]); try exact rfl
              apply al_wantedN
              · rfl
              · rfl
              · rfl
              · exact op_lenS Try.underlying9 (by rfl)
              · (try dsimp only [zS, zN, zH, zT]); try exact rfl
              apply al_wantedN
              · rfl
              · rfl
              · rfl
              · exact op_gtI (by rfl) (by rfl)
              · (try dsimp only [zS, zN, zH, zT]); try exact rfl
              apply al_stepN
              · exact op_pick_ff (by rfl) (val_tmp (by rfl))
              · rfl
              · (try dsimp only [zS, zN, zH, zT]); try exact rfl
              apply al_stepN
              · exact op_move_tmp (by rfl)
              · rfl
              · (try dsimp only [zS, zN, zH, zT]); try exact rfl
              refine al_split 50 rfl (fun hg12 => ?_) (fun hg12 => ?_)
              · skip
                (try simp only [decide_eq_true_eq, decide_eq_false_iff_not, beq_iff_eq, beq_eq_false_iff_ne, Bool.not_eq_true', Bool.not_eq_false', bne_iff_ne, ne_eq, Decidable.not_not, bne_eq_false_iff_eq, List.length_map] at hg12)
                apply al_normT
                · (try dsimp only [zS, zN, zH, zT]); try exact rfl
                refine al_unwanted rfl rfl rfl rfl ?_
                apply al_normT
                · (try dsimp only [zS, zN, zH, zT]); try exact rfl
                refine al_unwanted rfl rfl rfl rfl ?_
                apply al_normT
                · (try dsimp only [zS, zN, zH, zT]); try exact rfl
                refine al_unwanted rfl rfl rfl rfl ?_
                apply al_normT
                · (try dsimp only [zS, zN, zH, zT]); try exact rfl
                apply al_stepN
                · exact op_pick_tt (by rfl) (val_const (by rfl))
                · rfl
                · (try dsimp only [zS, zN, zH, zT]); try exact rfl
                apply al_stepN
                · exact op_move_tmp (by rfl)
                · rfl
                · (try dsimp only [zS, zN, zH, zT]); try exact rfl
                refine al_unwanted rfl rfl rfl rfl ?_
                apply al_normT
                · (try dsimp only [zS, zN, zH, zT]); try exact rfl
                refine al_unwanted rfl rfl rfl rfl ?_
                apply al_normT
                · (try dsimp only [zS, zN, zH, zT]); try exact rfl
                refine al_unwanted rfl rfl rfl rfl ?_
                apply al_normT
                · (try dsimp only [zS, zN, zH, zT]); try exact rfl
                refine al_unwanted rfl rfl rfl rfl ?_
                apply al_normT
                · (try dsimp only [zS, zN, zH, zT]); try exact rfl
                refine al_unwanted rfl rfl rfl rfl ?_
                apply al_normT
                · (try dsimp only [zS, zN, zH, zT]); try exact rfl
                apply al_stepN
                · exact op_pick_tt (by rfl) (val_const (by rfl))
                · rfl
                · (try dsimp only [zS, zN, zH, zT]); try exact rfl
                apply al_end
                · (try dsimp only [zS, zN, zH, zT]); try exact rfl
                refine then_normal ?_
                refine aw_cond rfl (fun _ => ?_) (fun h => by cases h)
                refine aw_seq ?_
                refine aw_region ?_
                apply al_stepN
                · exact op_assign_const (by rfl)
                · rfl
                · (try dsimp only [zS, zN, zH, zT]); try exact rfl
                apply al_end
                · (try dsimp only [zS, zN, zH, zT]); try exact rfl
                refine then_normal ?_
                refine aw_ret ?_
                refine then_ret ?_
                refine retPost1 rfl rfl ?_
                first | exact rfl | (simp [TF, p7]; done)
              · skip
                (try simp only [decide_eq_true_eq, decide_eq_false_iff_not, beq_iff_eq, beq_eq_false_iff_ne, Bool.not_eq_true', Bool.not_eq_false', bne_iff_ne, ne_eq, Decidable.not_not, bne_eq_false_iff_eq, List.length_map] at hg12)
                have hid : id.length ≤ 60 := by have h : ¬ 60 < (id.length : Int) := hg12; omega
                apply al_normT
                · (try dsimp only [zS, zN, zH, zT]); try exact rfl
                apply al_wantedN
                · rfl
                · rfl
                · rfl
                · exact op_move_tmp (by rfl)
                · (try dsimp only [zS, zN, zH, zT]); try exact rfl
                apply al_wantedN
                · rfl
                · rfl
                · rfl
                · exact op_lenS Try.underlying9 (by rfl)
                · (try dsimp only [zS, zN, zH, zT]); try exact rfl
                apply al_wantedN
                · rfl
                · rfl
                · rfl
                · exact op_gtI (by rfl) (by rfl)
                · (try dsimp only [zS, zN, zH, zT]); try exact rfl
                apply al_stepN
                · exact op_pick_ff (by rfl) (val_tmp (by rfl))
                · rfl
                · (try dsimp only [zS, zN, zH, zT]); try exact rfl
                apply al_stepN
                · exact op_move_tmp (by rfl)
                · rfl
                · (try dsimp only [zS, zN, zH, zT]); try exact rfl
                refine al_split 55 rfl (fun hg14 => ?_) (fun hg14 => ?_)
                · skip
                  (try simp only [decide_eq_true_eq, decide_eq_false_iff_not, beq_iff_eq, beq_eq_false_iff_ne, Bool.not_eq_true', Bool.not_eq_false', bne_iff_ne, ne_eq, Decidable.not_not, bne_eq_false_iff_eq, List.length_map] at hg14)
                  apply al_normT
                  · (try dsimp only [zS, zN, zH, zT]); try exact rfl
                  refine al_unwanted rfl rfl rfl rfl ?_
                  apply al_normT
                  · (try dsimp only [zS, zN, zH, zT]); try exact rfl
                  refine al_unwanted rfl rfl rfl rfl ?_
                  apply al_normT
                  · (try dsimp only [zS, zN, zH, zT]); try exact rfl
                  refine al_unwanted rfl rfl rfl rfl ?_
                  apply al_normT
                  · (try dsimp only [zS, zN, zH, zT]); try exact rfl
                  refine al_unwanted rfl rfl rfl rfl ?_
                  apply al_normT
                  · (try dsimp only [zS, zN, zH, zT]); try exact rfl
                  refine al_unwanted rfl rfl rfl rfl ?_
                  apply al_normT
                  · (try dsimp only [zS, zN, zH, zT]); try exact rfl
                  apply al_stepN
                  · exact op_pick_tt (by rfl) (val_const (by rfl))
                  · rfl
                  · (try dsimp only [zS, zN, zH, zT]); try exact rfl
                  apply al_end
                  · (try dsimp only [zS, zN, zH, zT]); try exact rfl
                  refine then_normal ?_
                  refine aw_cond rfl (fun _ => ?_) (fun h => by cases h)
                  refine aw_seq ?_
                  refine aw_region ?_
                  apply al_stepN
                  · exact op_assign_const (by rfl)
                  · rfl
                  · (try dsimp only [zS, zN, zH, zT]); try exact rfl
                  apply al_end
                  · (try dsimp only [zS, zN, zH, zT]); try exact rfl
                  refine then_normal ?_
                  refine aw_ret ?_
                  refine then_ret ?_
                  refine retPost1 rfl rfl ?_
                  first | exact rfl | (simp [TF, p7]; done)
                · skip
                  (try simp only [decide_eq_true_eq, decide_eq_false_iff_not, beq_iff_eq, beq_eq_false_iff_ne, Bool.not_eq_true', Bool.not_eq_false', bne_iff_ne, ne_eq, Decidable.not_not, bne_eq_false_iff_eq, List.length_map] at hg14)
                  have hoth : other.length ≤ 60 := by have h : ¬ 60 < (other.length : Int) := hg14; omega
                  apply al_normT
                  · (try dsimp only [zS, zN, zH, zT]); try exact rfl
                  apply al_wantedN
                  · rfl
                  · rfl
                  · rfl
                  · first | exact op_fieldAddr_ptr Try.underlying25 rfl Sz9 (by rfl) (by rfl) | exact op_fieldAddr_elt Try.underlying25 rfl Sz9 (by rfl) (by rfl) (by rfl)
                  · (try dsimp only [zS, zN, zH, zT]); try exact rfl
                  apply al_wantedN
                  · rfl
                  · rfl
                  · rfl
                  · first | exact op_load_elt Try.underlying9 (by rfl) (by rfl) (by rfl) | exact op_load_ptr Try.underlying9 (by rfl) (by rfl) (by rfl) (by rfl)
                  · (try dsimp only [zS, zN, zH, zT]); try exact rfl
                  apply al_wantedN
                  · rfl
                  · rfl
                  · rfl
                  · first | exact op_fieldAddr_ptr Try.underlying25 rfl Sz9 (by rfl) (by rfl) | exact op_fieldAddr_elt Try.underlying25 rfl Sz9 (by rfl) (by rfl) (by rfl)
                  · (try dsimp only [zS, zN, zH, zT]); try exact rfl
                  apply al_wantedN
                  · rfl
                  · rfl
                  · rfl
                  · first | exact op_load_elt Try.underlying9 (by rfl) (by rfl) (by rfl) | exact op_load_ptr Try.underlying9 (by rfl) (by rfl) (by rfl) (by rfl)
                  · (try dsimp only [zS, zN, zH, zT]); try exact rfl
                  apply al_wantedN
                  · rfl
                  · rfl
                  · rfl
                  · exact op_eqS (by rfl) (by rfl)
                  · (try dsimp only [zS, zN, zH, zT]); try exact rfl
                  apply al_stepN
                  · exact op_pick_ff (by rfl) (val_tmp (by rfl))
                  · rfl
                  · (try dsimp only [zS, zN, zH, zT]); try exact rfl
                  apply al_end
                  · (try dsimp only [zS, zN, zH, zT]); try exact rfl
                  refine then_normal ?_
                  refine aw_cond rfl (fun hc16 => ?_) (fun hc16 => ?_)
                  · skip
                    (try simp only [decide_eq_true_eq, decide_eq_false_iff_not, beq_iff_eq, beq_eq_false_iff_ne, Bool.not_eq_true', Bool.not_eq_false', bne_iff_ne, ne_eq, Decidable.not_not, bne_eq_false_iff_eq, List.length_map] at hc16)
                    refine aw_seq ?_
                    refine aw_region ?_
                    apply al_stepN
                    · exact op_assign_const (by rfl)
                    · rfl
                    · (try dsimp only [zS, zN, zH, zT]); try exact rfl
                    apply al_end
                    · (try dsimp only [zS, zN, zH, zT]); try exact rfl
                    refine then_normal ?_
                    refine aw_ret ?_
                    refine then_ret ?_
                    refine retPost1 rfl rfl ?_
                    first | exact rfl | (simp [TF, p7]; done)
                  · skip
                    (try simp only [decide_eq_true_eq, decide_eq_false_iff_not, beq_iff_eq, beq_eq_false_iff_ne, Bool.not_eq_true', Bool.not_eq_false', bne_iff_ne, ne_eq, Decidable.not_not, bne_eq_false_iff_eq, List.length_map] at hc16)
                    have hab : ¬ an = bn := hc16
                    obtain ⟨hr, _, hw, _⟩ := law_parts hf wv
                    have hv := law_ord hf wv
                    obtain ⟨p1, p2, p3, p4, p5, p6, p7⟩ := parts_law hab x.name y.name x.uniq y.uniq (lawR v) id other
                    refine aw_skip ?_
                    refine then_normal ?_
                    refine aw_seq ?_
                    refine aw_region ?_
                    apply al_stepN
                    · exact op_load_ptrsD (vC v) Try.underlying37 (by rfl) Sz37 (by rfl) push_at (by show 0 + 6 ≤ ((vC v).map AV.d).length; rw [List.length_map, vC_len]; exact Nat.le_refl _) (by show (((vC v).map AV.d).drop 0).take 6 = _; rw [List.drop_zero, List.take_of_length_le (by rw [List.length_map, vC_len]; exact Nat.le_refl _)]) (vC_one v)
                    · rfl
                    · (try dsimp only [zS, zN, zH, zT]); try exact rfl
                    apply al_stepN
                    · exact op_callF Try.func21 (by rfl) (by rfl) (.tmp (by rfl) .nil) (lawR_all 7 v hf _)
                    · rfl
                    · (try dsimp only [zS, zN, zH, zT]); try exact rfl
                    apply al_stepN
                    · exact op_storeVV v (lawR v) Sz37 (by rfl) push_at (by rfl)
                    · rfl
                    · (try dsimp only [zS, zN, zH, zT]); try exact rfl
                    apply al_end
                    · (try dsimp only [zS, zN, zH, zT]); try exact rfl
                    refine then_normal ?_
                    refine aw_seq ?_
                    refine aw_region ?_
                    apply al_stepN
                    · exact op_assign_func
                    · rfl
                    · (try dsimp only [zS, zN, zH, zT]); try exact rfl
                    apply al_end
                    · (try dsimp only [zS, zN, zH, zT]); try exact rfl
                    refine then_normal ?_
                    refine aw_seq ?_
                    refine aw_region ?_
                    apply al_stepN
                    · exact op_load_elts (ds := [S an, .lst 3 (ai.map ixD)]) Try.underlying25 (by rfl) Sz25 (by rfl) (Nat.le_of_ble_eq_true rfl) (by rfl)
                    · rfl
                    · (try dsimp only [zS, zN, zH, zT]); try exact rfl
                    apply al_stepN
                    · exact op_load_elts (ds := ixC x) Try.underlying32 (by rfl) Sz32 (by rfl) (Nat.le_of_ble_eq_true rfl) (by rfl)
                    · rfl
                    · (try dsimp only [zS, zN, zH, zT]); try exact rfl
                    apply al_stepN
                    · exact op_load_ptrsD (vC (lawR v)) Try.underlying37 (by rfl) Sz37 (by rfl) (setB_at push_at) (by show 0 + 6 ≤ ((vC (lawR v)).map AV.d).length; rw [List.length_map, vC_len]; exact Nat.le_refl _) (by show (((vC (lawR v)).map AV.d).drop 0).take 6 = _; rw [List.drop_zero, List.take_of_length_le (by rw [List.length_map, vC_len]; exact Nat.le_refl _)]) (vC_one (lawR v))
                    · rfl
                    · (try dsimp only [zS, zN, zH, zT]); try exact rfl
                    apply al_stepN
                    · exact op_move_tmp (by rfl)
                    · rfl
                    · (try dsimp only [zS, zN, zH, zT]); try exact rfl
                    apply al_stepN
                    · exact op_callF Try.func23 (by rfl) (by rfl) (.tmp (by rfl) (.tmp (by rfl) (.tmp (by rfl) (.tmp (by rfl) .nil)))) (centry_ok _ an _ x.name _ x.uniq (lawR v) id (by omega) (by omega) (by omega) hr hw hv)
                    · rfl
                    · (try dsimp only [zS, zN, zH, zT]); try exact rfl
                    apply al_stepN
                    · exact op_assign_tmp (by rfl)
                    · rfl
                    · (try dsimp only [zS, zN, zH, zT]); try exact rfl
                    apply al_end
                    · (try dsimp only [zS, zN, zH, zT]); try exact rfl
                    refine then_normal ?_
                    refine aw_seq ?_
                    refine aw_region ?_
                    apply al_stepN
                    · exact op_load_elts (ds := [S bn, .lst 3 (bi.map ixD)]) Try.underlying25 (by rfl) Sz25 (by rfl) (Nat.le_of_ble_eq_true rfl) (by rfl)
                    · rfl
                    · (try dsimp only [zS, zN, zH, zT]); try exact rfl
                    apply al_stepN
                    · exact op_load_elts (ds := ixC y) Try.underlying32 (by rfl) Sz32 (by rfl) (Nat.le_of_ble_eq_true rfl) (by rfl)
                    · rfl
                    · (try dsimp only [zS, zN, zH, zT]); try exact rfl
                    apply al_stepN
                    · exact op_load_ptrsD (vC (lawR v)) Try.underlying37 (by rfl) Sz37 (by rfl) (setB_at push_at) (by show 0 + 6 ≤ ((vC (lawR v)).map AV.d).length; rw [List.length_map, vC_len]; exact Nat.le_refl _) (by show (((vC (lawR v)).map AV.d).drop 0).take 6 = _; rw [List.drop_zero, List.take_of_length_le (by rw [List.length_map, vC_len]; exact Nat.le_refl _)]) (vC_one (lawR v))
                    · rfl
                    · (try dsimp only [zS, zN, zH, zT]); try exact rfl
                    apply al_stepN
                    · exact op_move_tmp (by rfl)
                    · rfl
                    · (try dsimp only [zS, zN, zH, zT]); try exact rfl
                    apply al_stepN
                    · exact op_callF Try.func23 (by rfl) (by rfl) (.tmp (by rfl) (.tmp (by rfl) (.tmp (by rfl) (.tmp (by rfl) .nil)))) (centry_ok _ bn _ y.name _ y.uniq (lawR v) other (by omega) (by omega) (by omega) hr hw hv)
                    · rfl
                    · (try dsimp only [zS, zN, zH, zT]); try exact rfl
                    apply al_stepN
                    · exact op_assign_tmp (by rfl)
                    · rfl
                    · (try dsimp only [zS, zN, zH, zT]); try exact rfl
                    apply al_end
                    · (try dsimp only [zS, zN, zH, zT]); try exact rfl
                    refine then_normal ?_
                    refine aw_seq ?_
                    refine aw_draw [0, 0, 0, 0, 0, 0, 0, 0, 0, 0, 0, 0, 0, 0, 0, 0, 0, 0, 0, 0, 0, 0, 0, 0, 0, 0, 0, 0, 0, 0, 0, 0, 0, 0, 0, 0, 0, 0, 0, 0, 0, 0, 0, 0, 0, 0, 0, 0, 0, 0, 0, 0, 0, 0] mixed (by kernel_rfl) ?_
                    apply drun0
                    · intro H; exact op_load_elts (ds := [S an, .lst 3 (ai.map ixD)]) Try.underlying25 (by rfl) Sz25 (by rfl) (Nat.le_of_ble_eq_true rfl) (by rfl)
                    · rfl
                    apply drun_normT
                    · (try dsimp only [zS, zN, zH, zT]); try exact rfl
                    apply drun0
                    · intro H; exact op_callF Try.func24 (by rfl) (by rfl) (.tmp (by rfl) .nil) (ckey_ok _ an _ (by omega))
                    · rfl
                    apply drun_normT
                    · (try dsimp only [zS, zN, zH, zT]); try exact rfl
                    apply drun0
                    · intro H; exact op_load_elts (ds := [S bn, .lst 3 (bi.map ixD)]) Try.underlying25 (by rfl) Sz25 (by rfl) (Nat.le_of_ble_eq_true rfl) (by rfl)
                    · rfl
                    apply drun_normT
                    · (try dsimp only [zS, zN, zH, zT]); try exact rfl
                    apply drun0
                    · intro H; exact op_callF Try.func24 (by rfl) (by rfl) (.tmp (by rfl) .nil) (ckey_ok _ bn _ (by omega))
                    · rfl
                    apply drun_normT
                    · (try dsimp only [zS, zN, zH, zT]); try exact rfl
                    apply drun0
                    · intro H; exact op_neS (by rfl) (by rfl)
                    · rfl
                    apply drun_normT
                    · (try dsimp only [zS, zN, zH, zT]); try exact rfl
                    apply drun0
                    · intro H; exact op_move_tmp (by rfl)
                    · rfl
                    apply drun_normT
                    · (try dsimp only [zS, zN, zH, zT]); try exact rfl
                    refine drun_split 79 rfl (fun hg17 => ?_) (fun hg17 => ?_)
                    · skip
                      (try simp only [decide_eq_true_eq, decide_eq_false_iff_not, beq_iff_eq, beq_eq_false_iff_ne, Bool.not_eq_true', Bool.not_eq_false', bne_iff_ne, ne_eq, Decidable.not_not, bne_eq_false_iff_eq, List.length_map] at hg17)
                      apply drun_normT
                      · (try dsimp only [zS, zN, zH, zT]); try exact rfl
                      apply drun0w
                      · rfl
                      · rfl
                      · rfl
                      · intro H; exact op_load_elts (ds := [S an, .lst 3 (ai.map ixD)]) Try.underlying25 (by rfl) Sz25 (by rfl) (Nat.le_of_ble_eq_true rfl) (by rfl)
                      apply drun_normT
                      · (try dsimp only [zS, zN, zH, zT]); try exact rfl
                      apply drun0w
                      · rfl
                      · rfl
                      · rfl
                      · intro H; exact op_move_tmp (by rfl)
                      apply drun_normT
                      · (try dsimp only [zS, zN, zH, zT]); try exact rfl
                      apply drun0w
                      · rfl
                      · rfl
                      · rfl
                      · intro H; exact op_callF Try.func25 (by rfl) (by rfl) (.tmp (by rfl) (.tmp (by rfl) .nil)) (cdoc_ok _ an _ id (by omega) (by omega))
                      apply drun_normT
                      · (try dsimp only [zS, zN, zH, zT]); try exact rfl
                      apply drun0w
                      · rfl
                      · rfl
                      · rfl
                      · intro H; exact op_load_elts (ds := [S bn, .lst 3 (bi.map ixD)]) Try.underlying25 (by rfl) Sz25 (by rfl) (Nat.le_of_ble_eq_true rfl) (by rfl)
                      apply drun_normT
                      · (try dsimp only [zS, zN, zH, zT]); try exact rfl
                      apply drun0w
                      · rfl
                      · rfl
                      · rfl
                      · intro H; exact op_move_tmp (by rfl)
                      apply drun_normT
                      · (try dsimp only [zS, zN, zH, zT]); try exact rfl
                      apply drun0w
                      · rfl
                      · rfl
                      · rfl
                      · intro H; exact op_callF Try.func25 (by rfl) (by rfl) (.tmp (by rfl) (.tmp (by rfl) .nil)) (cdoc_ok _ bn _ other (by omega) (by omega))
                      apply drun_normT
                      · (try dsimp only [zS, zN, zH, zT]); try exact rfl
                      apply drun0w
                      · rfl
                      · rfl
                      · rfl
                      · intro H; exact op_neS (by rfl) (by rfl)
                      apply drun_normT
                      · (try dsimp only [zS, zN, zH, zT]); try exact rfl
                      apply drun0
                      · intro H; exact op_pick_tt (by rfl) (val_tmp (by rfl))
                      · rfl
                      apply drun_normT
                      · (try dsimp only [zS, zN, zH, zT]); try exact rfl
                      apply drun0
                      · intro H; exact op_move_tmp (by rfl)
                      · rfl
                      apply drun_normT
                      · (try dsimp only [zS, zN, zH, zT]); try exact rfl
                      refine drun_split 88 rfl (fun hg18 => ?_) (fun hg18 => ?_)
                      · skip
                        (try simp only [decide_eq_true_eq, decide_eq_false_iff_not, beq_iff_eq, beq_eq_false_iff_ne, Bool.not_eq_true', Bool.not_eq_false', bne_iff_ne, ne_eq, Decidable.not_not, bne_eq_false_iff_eq, List.length_map] at hg18)
                        apply drun_normT
                        · (try dsimp only [zS, zN, zH, zT]); try exact rfl
                        apply drun0w
                        · rfl
                        · rfl
                        · rfl
                        · intro H; exact op_move_tmp (by rfl)
                        apply drun_normT
                        · (try dsimp only [zS, zN, zH, zT]); try exact rfl
                        apply drun0w
                        · rfl
                        · rfl
                        · rfl
                        · intro H; exact op_move_tmp (by rfl)
                        apply drun_normT
                        · (try dsimp only [zS, zN, zH, zT]); try exact rfl
                        apply drun0w
                        · rfl
                        · rfl
                        · rfl
                        · intro H; exact op_neS (by rfl) (by rfl)
                        apply drun_normT
                        · (try dsimp only [zS, zN, zH, zT]); try exact rfl
                        apply drun0
                        · intro H; exact op_pick_tt (by rfl) (val_tmp (by rfl))
                        · rfl
                        apply drun_normT
                        · (try dsimp only [zS, zN, zH, zT]); try exact rfl
                        apply drun0
                        · intro H; exact op_move_tmp (by rfl)
                        · rfl
                        apply drun_normT
                        · (try dsimp only [zS, zN, zH, zT]); try exact rfl
                        refine drun_split 93 rfl (fun hg19 => ?_) (fun hg19 => ?_)
                        · skip
                          (try simp only [decide_eq_true_eq, decide_eq_false_iff_not, beq_iff_eq, beq_eq_false_iff_ne, Bool.not_eq_true', Bool.not_eq_false', bne_iff_ne, ne_eq, Decidable.not_not, bne_eq_false_iff_eq, List.length_map] at hg19)
                          apply drun_normT
                          · (try dsimp only [zS, zN, zH, zT]); try exact rfl
                          apply drun0w
                          · rfl
                          · rfl
                          · rfl
                          · intro H; exact op_move_tmp (by rfl)
                          apply drun_normT
                          · (try dsimp only [zS, zN, zH, zT]); try exact rfl
                          apply drun0w
                          · rfl
                          · rfl
                          · rfl
                          · intro H; exact op_load_elts (ds := [S an, .lst 3 (ai.map ixD)]) Try.underlying25 (by rfl) Sz25 (by rfl) (Nat.le_of_ble_eq_true rfl) (by rfl)
                          apply drun_normT
                          · (try dsimp only [zS, zN, zH, zT]); try exact rfl
                          apply drun0w
                          · rfl
                          · rfl
                          · rfl
                          · intro H; exact op_move_tmp (by rfl)
                          apply drun_normT
                          · (try dsimp only [zS, zN, zH, zT]); try exact rfl
                          apply drun0w
                          · rfl
                          · rfl
                          · rfl
                          · intro H; exact op_callF Try.func25 (by rfl) (by rfl) (.tmp (by rfl) (.tmp (by rfl) .nil)) (cdoc_ok _ an _ id (by omega) (by omega))
                          apply drun_normT
                          · (try dsimp only [zS, zN, zH, zT]); try exact rfl
                          apply drun0w
                          · rfl
                          · rfl
                          · rfl
                          · intro H; exact op_load_elts (ds := [S bn, .lst 3 (bi.map ixD)]) Try.underlying25 (by rfl) Sz25 (by rfl) (Nat.le_of_ble_eq_true rfl) (by rfl)
                          apply drun_normT
                          · (try dsimp only [zS, zN, zH, zT]); try exact rfl
                          apply drun0w
                          · rfl
                          · rfl
                          · rfl
                          · intro H; exact op_callF Try.func26 (by rfl) (by rfl) (.tmp (by rfl) .nil) (cdocs_ok _ bn _ (by omega))
                          apply drun_normT
                          · (try dsimp only [zS, zN, zH, zT]); try exact rfl
                          apply drun0w
                          · rfl
                          · rfl
                          · rfl
                          · intro H; exact op_callV (by rfl) Try.func22 (by rfl) (by rfl) (.tmp (by rfl) (.tmp (by rfl) .nil)) (begP_ok _ _ _)
                          apply drun_normT
                          · (try dsimp only [zS, zN, zH, zT]); try exact rfl
                          apply drun0w
                          · rfl
                          · rfl
                          · rfl
                          · intro H; exact op_not (by rfl)
                          apply drun_normT
                          · (try dsimp only [zS, zN, zH, zT]); try exact rfl
                          apply drun0
                          · intro H; exact op_pick_tt (by rfl) (val_tmp (by rfl))
                          · rfl
                          apply drun_normT
                          · (try dsimp only [zS, zN, zH, zT]); try exact rfl
                          apply drun0
                          · intro H; exact op_move_tmp (by rfl)
                          · rfl
                          apply drun_normT
                          · (try dsimp only [zS, zN, zH, zT]); try exact rfl
                          refine drun_split 103 rfl (fun hg20 => ?_) (fun hg20 => ?_)
                          · skip
                            (try simp only [decide_eq_true_eq, decide_eq_false_iff_not, beq_iff_eq, beq_eq_false_iff_ne, Bool.not_eq_true', Bool.not_eq_false', bne_iff_ne, ne_eq, Decidable.not_not, bne_eq_false_iff_eq, List.length_map] at hg20)
                            apply drun_normT
                            · (try dsimp only [zS, zN, zH, zT]); try exact rfl
                            apply drun0w
                            · rfl
                            · rfl
                            · rfl
                            · intro H; exact op_move_tmp (by rfl)
                            apply drun_normT
                            · (try dsimp only [zS, zN, zH, zT]); try exact rfl
                            apply drun0w
                            · rfl
                            · rfl
                            · rfl
                            · intro H; exact op_move_tmp (by rfl)
                            apply drun_normT
                            · (try dsimp only [zS, zN, zH, zT]); try exact rfl
                            apply drun0w
                            · rfl
                            · rfl
                            · rfl
                            · intro H; exact op_load_elts (ds := [S bn, .lst 3 (bi.map ixD)]) Try.underlying25 (by rfl) Sz25 (by rfl) (Nat.le_of_ble_eq_true rfl) (by rfl)
                            apply drun_normT
                            · (try dsimp only [zS, zN, zH, zT]); try exact rfl
                            apply drun0w
                            · rfl
                            · rfl
                            · rfl
                            · intro H; exact op_load_elts (ds := ixC y) Try.underlying32 (by rfl) Sz32 (by rfl) (Nat.le_of_ble_eq_true rfl) (by rfl)
                            apply drun_normT
                            · (try dsimp only [zS, zN, zH, zT]); try exact rfl
                            apply drun0w
                            · rfl
                            · rfl
                            · rfl
                            · intro H; exact op_callF Try.func27 (by rfl) (by rfl) (.tmp (by rfl) (.tmp (by rfl) .nil)) (centries_ok _ bn _ y.name _ _ (by omega) (by omega))
                            apply drun_normT
                            · (try dsimp only [zS, zN, zH, zT]); try exact rfl
                            apply drun0w
                            · rfl
                            · rfl
                            · rfl
                            · intro H; exact op_callV (by rfl) Try.func22 (by rfl) (by rfl) (.tmp (by rfl) (.tmp (by rfl) .nil)) (begP_ok _ _ _)
                            apply drun_normT
                            · (try dsimp only [zS, zN, zH, zT]); try exact rfl
                            apply drun0w
                            · rfl
                            · rfl
                            · rfl
                            · intro H; exact op_not (by rfl)
                            apply drun_normT
                            · (try dsimp only [zS, zN, zH, zT]); try exact rfl
                            apply drun0
                            · intro H; exact op_pick_tt (by rfl) (val_tmp (by rfl))
                            · rfl
                            apply drun_normT
                            · (try dsimp only [zS, zN, zH, zT]); try exact rfl
                            apply drun0
                            · intro H; exact op_move_tmp (by rfl)
                            · rfl
                            apply drun_normT
                            · (try dsimp only [zS, zN, zH, zT]); try exact rfl
                            refine drun_split 112 rfl (fun hg21 => ?_) (fun hg21 => ?_)
                            · skip
                              (try simp only [decide_eq_true_eq, decide_eq_false_iff_not, beq_iff_eq, beq_eq_false_iff_ne, Bool.not_eq_true', Bool.not_eq_false', bne_iff_ne, ne_eq, Decidable.not_not, bne_eq_false_iff_eq, List.length_map] at hg21)
                              apply drun_normT
                              · (try dsimp only [zS, zN, zH, zT]); try exact rfl
                              apply drun0w
                              · rfl
                              · rfl
                              · rfl
                              · intro H; exact op_load_elts (ds := [S an, .lst 3 (ai.map ixD)]) Try.underlying25 (by rfl) Sz25 (by rfl) (Nat.le_of_ble_eq_true rfl) (by rfl)
                              apply drun_normT
                              · (try dsimp only [zS, zN, zH, zT]); try exact rfl
                              apply drun0w
                              · rfl
                              · rfl
                              · rfl
                              · intro H; exact op_move_tmp (by rfl)
                              apply drun_normT
                              · (try dsimp only [zS, zN, zH, zT]); try exact rfl
                              apply drun0w
                              · rfl
                              · rfl
                              · rfl
                              · intro H; exact op_callF Try.func25 (by rfl) (by rfl) (.tmp (by rfl) (.tmp (by rfl) .nil)) (cdoc_ok _ an _ id (by omega) (by omega))
                              apply drun_normT
                              · (try dsimp only [zS, zN, zH, zT]); try exact rfl
                              apply drun0w
                              · rfl
                              · rfl
                              · rfl
                              · intro H; exact op_move_tmp (by rfl)
                              apply drun_normT
                              · (try dsimp only [zS, zN, zH, zT]); try exact rfl
                              apply drun0w
                              · rfl
                              · rfl
                              · rfl
                              · intro H; exact op_neS (by rfl) (by rfl)
                              apply drun_normT
                              · (try dsimp only [zS, zN, zH, zT]); try exact rfl
                              apply drun0
                              · intro H; exact op_pick_tt (by rfl) (val_tmp (by rfl))
                              · rfl
                              apply drun_normT
                              · (try dsimp only [zS, zN, zH, zT]); try exact rfl
                              apply drun0
                              · intro H; exact op_move_tmp (by rfl)
                              · rfl
                              apply drun_normT
                              · (try dsimp only [zS, zN, zH, zT]); try exact rfl
                              refine drun_split 119 rfl (fun hg22 => ?_) (fun hg22 => ?_)
                              · skip
                                (try simp only [decide_eq_true_eq, decide_eq_false_iff_not, beq_iff_eq, beq_eq_false_iff_ne, Bool.not_eq_true', Bool.not_eq_false', bne_iff_ne, ne_eq, Decidable.not_not, bne_eq_false_iff_eq, List.length_map] at hg22)
                                apply drun_normT
                                · (try dsimp only [zS, zN, zH, zT]); try exact rfl
                                apply drun0w
                                · rfl
                                · rfl
                                · rfl
                                · intro H; exact op_load_elts (ds := [S an, .lst 3 (ai.map ixD)]) Try.underlying25 (by rfl) Sz25 (by rfl) (Nat.le_of_ble_eq_true rfl) (by rfl)
                                apply drun_normT
                                · (try dsimp only [zS, zN, zH, zT]); try exact rfl
                                apply drun0w
                                · rfl
                                · rfl
                                · rfl
                                · intro H; exact op_callF Try.func24 (by rfl) (by rfl) (.tmp (by rfl) .nil) (ckey_ok _ an _ (by omega))
                                apply drun_normT
                                · (try dsimp only [zS, zN, zH, zT]); try exact rfl
                                apply drun0w
                                · rfl
                                · rfl
                                · rfl
                                · intro H; exact op_load_elts (ds := [S an, .lst 3 (ai.map ixD)]) Try.underlying25 (by rfl) Sz25 (by rfl) (Nat.le_of_ble_eq_true rfl) (by rfl)
                                apply drun_normT
                                · (try dsimp only [zS, zN, zH, zT]); try exact rfl
                                apply drun0w
                                · rfl
                                · rfl
                                · rfl
                                · intro H; exact op_move_tmp (by rfl)
                                apply drun_normT
                                · (try dsimp only [zS, zN, zH, zT]); try exact rfl
                                apply drun0w
                                · rfl
                                · rfl
                                · rfl
                                · intro H; exact op_callF Try.func25 (by rfl) (by rfl) (.tmp (by rfl) (.tmp (by rfl) .nil)) (cdoc_ok _ an _ id (by omega) (by omega))
                                apply drun_normT
                                · (try dsimp only [zS, zN, zH, zT]); try exact rfl
                                apply drun0w
                                · rfl
                                · rfl
                                · rfl
                                · intro H; exact op_neS (by rfl) (by rfl)
                                apply drun_normT
                                · (try dsimp only [zS, zN, zH, zT]); try exact rfl
                                apply drun0
                                · intro H; exact op_pick_tt (by rfl) (val_tmp (by rfl))
                                · rfl
                                apply drun_normT
                                · (try dsimp only [zS, zN, zH, zT]); try exact rfl
                                apply drun0
                                · intro H; exact op_assign_tmp (by rfl)
                                · rfl
                                apply drun_normT
                                · (try dsimp only [zS, zN, zH, zT]); try exact rfl
                                apply drun_end
                                · (try dsimp only [zS, zN, zH, zT]); try exact rfl
                                refine then_normal ?_
                                refine aw_ret ?_
                                refine retPost1 rfl rfl ?_
                                first | exact rfl | (simp [TF, p7]; done)
                              · skip
                                (try simp only [decide_eq_true_eq, decide_eq_false_iff_not, beq_iff_eq, beq_eq_false_iff_ne, Bool.not_eq_true', Bool.not_eq_false', bne_iff_ne, ne_eq, Decidable.not_not, bne_eq_false_iff_eq, List.length_map] at hg22)
                                apply drun_normT
                                · (try dsimp only [zS, zN, zH, zT]); try exact rfl
                                exact absurd hg22 p6
                            · skip
                              (try simp only [decide_eq_true_eq, decide_eq_false_iff_not, beq_iff_eq, beq_eq_false_iff_ne, Bool.not_eq_true', Bool.not_eq_false', bne_iff_ne, ne_eq, Decidable.not_not, bne_eq_false_iff_eq, List.length_map] at hg21)
                              apply drun_normT
                              · (try dsimp only [zS, zN, zH, zT]); try exact rfl
                              rw [p5] at hg21; cases hg21
                          · skip
                            (try simp only [decide_eq_true_eq, decide_eq_false_iff_not, beq_iff_eq, beq_eq_false_iff_ne, Bool.not_eq_true', Bool.not_eq_false', bne_iff_ne, ne_eq, Decidable.not_not, bne_eq_false_iff_eq, List.length_map] at hg20)
                            apply drun_normT
                            · (try dsimp only [zS, zN, zH, zT]); try exact rfl
                            rw [p4] at hg20; cases hg20
                        · skip
                          (try simp only [decide_eq_true_eq, decide_eq_false_iff_not, beq_iff_eq, beq_eq_false_iff_ne, Bool.not_eq_true', Bool.not_eq_false', bne_iff_ne, ne_eq, Decidable.not_not, bne_eq_false_iff_eq, List.length_map] at hg19)
                          apply drun_normT
                          · (try dsimp only [zS, zN, zH, zT]); try exact rfl
                          exact absurd hg19 p3
                      · skip
                        (try simp only [decide_eq_true_eq, decide_eq_false_iff_not, beq_iff_eq, beq_eq_false_iff_ne, Bool.not_eq_true', Bool.not_eq_false', bne_iff_ne, ne_eq, Decidable.not_not, bne_eq_false_iff_eq, List.length_map] at hg18)
                        apply drun_normT
                        · (try dsimp only [zS, zN, zH, zT]); try exact rfl
                        exact absurd hg18 p2
                    · skip
                      (try simp only [decide_eq_true_eq, decide_eq_false_iff_not, beq_iff_eq, beq_eq_false_iff_ne, Bool.not_eq_true', Bool.not_eq_false', bne_iff_ne, ne_eq, Decidable.not_not, bne_eq_false_iff_eq, List.length_map] at hg17)
                      apply drun_normT
                      · (try dsimp only [zS, zN, zH, zT]); try exact rfl
                      exact absurd hg17 p1
end Go.Proofs.Ytadkehaagkjbhaa
