/- What the law SchemaKeys comes to. -/
import Derived.Test.YtadkehaagkjbhaaKeysE
import Derived.Test.YtadkehaagkjbhaaValLf
import Derived.Test.YtadkehaagkjbhaaValRt
import Derived.Test.YtadkehaagkjbhaaCutW
import Derived.KernelRfl
namespace Go.Proofs.Ytadkehaagkjbhaa
open Go.AV Go.AV.Ord Go.AV.Oct Go.AV.Val Go.AV.Sch
set_option linter.unusedVariables false
set_option linter.unusedSimpArgs false
theorem vtypes : VTypes Try.prog 37 89 33 4 2 9 34 35 where
  v := ⟨_, Try.underlying37, ⟨_, rfl, rfl, rfl⟩, ⟨_, rfl, rfl, rfl⟩, ⟨_, rfl, rfl, rfl⟩, ⟨_, rfl, rfl, rfl⟩, ⟨_, rfl, rfl, rfl⟩, ⟨_, rfl, rfl, rfl⟩, rfl⟩
  f := ⟨_, Try.underlying89, ⟨_, rfl, rfl, rfl⟩, ⟨_, rfl, rfl, rfl⟩, rfl⟩
  k := Try.underlying33
  b := Try.underlying4
  i := Try.underlying2
  s := Try.underlying9
  l := Try.underlying34
  m := Try.underlying35
  cV := by kernel_rfl
  cF := by kernel_rfl
  cK := by kernel_rfl
  cB := by kernel_rfl
  cI := by kernel_rfl
  cS := by kernel_rfl
  cL := by kernel_rfl
  cM := by kernel_rfl
theorem ctypes : CTypes Try.prog 25 32 9 4 23 where
  c := ⟨_, Try.underlying25, ⟨_, rfl, rfl, rfl⟩, ⟨_, rfl, rfl, rfl⟩, rfl⟩
  x := ⟨_, Try.underlying32, ⟨_, rfl, rfl, rfl⟩, ⟨_, rfl, rfl, rfl⟩, ⟨_, rfl, rfl, rfl⟩, rfl⟩
  s := Try.underlying9
  b := Try.underlying4
  l := Try.underlying23
  cC := by kernel_rfl
  cX := by kernel_rfl
  cS := by kernel_rfl
  cB := by kernel_rfl
  cL := by kernel_rfl
set_option maxRecDepth 100000 in
theorem head_ok (Hs : HS) : ACalls Try.prog 15 [] Hs (Ret (.d (TF true)) Hs) := by
  refine acalls_of_aw Try.func15 rfl ?_
  refine aw_start (T' := [.un, .un, .un, .un]) rfl ?_
  refine aw_seq ?_
  refine aw_region ?_
  apply al_stepN
  · exact op_assign_const (by rfl)
  · rfl
  · (try dsimp only [zS, zN, zH, zT]); try exact rfl
  apply al_end
  · (try dsimp only [zS, zN, zH, zT]); try exact rfl
  refine then_normal ?_
  refine aw_seq ?_
  refine aw_region ?_
  apply al_stepN
  · exact op_buildD (pl := [(0, 1), (1, 1)]) [S [97], .v (.slice none 0 0)] Try.underlying25 Zr25 (by kernel_rfl) (by rfl) (by rfl) (by rfl) (by simp [DV.one, S])
  · rfl
  · (try dsimp only [zS, zN, zH, zT]); try exact rfl
  apply al_stepN
  · exact op_callF Try.func24 (by rfl) (by rfl) (.tmp (by rfl) .nil) (ckey_ok _ [97] (.v (.slice none 0 0)) (by decide))
  · rfl
  · (try dsimp only [zS, zN, zH, zT]); try exact rfl
  apply al_stepN
  · exact op_eqS (by rfl) (by rfl)
  · rfl
  · (try dsimp only [zS, zN, zH, zT]); try exact rfl
  apply al_stepN
  · exact op_assign_tmp (by rfl)
  · rfl
  · (try dsimp only [zS, zN, zH, zT]); try exact rfl
  apply al_end
  · (try dsimp only [zS, zN, zH, zT]); try exact rfl
  refine then_normal ?_
  refine aw_ret ?_
  refine retPost1 rfl rfl ?_
  exact ⟨rfl, rfl⟩
set_option maxHeartbeats 1000000 in
set_option maxRecDepth 100000 in
theorem schemaKeys_walk (Hs : HS) (cn : List UInt8) (ci : List Ix) (x : Ix) (u v : V) (a b : List UInt8) (lc : ci.length ≤ 9223372036854775807) (wu : WfV u) (wv : WfV v) : ACalls Try.prog 5 [.d (.agg [S cn, .lst 3 (ci.map ixD)]), .d (ixD x), .d (.agg (vC u)), .d (.agg (vC v)), .d (S a), .d (S b)] Hs (fun av _ => av = .d (TF true)) := by
  refine acalls_of_aw Try.func5 rfl ?_
  refine aw_start (T' := ((.d (.agg [S cn, .lst 3 (ci.map ixD)])) :: (.d (ixD x)) :: (.d (.agg (vC u))) :: (.d (.agg (vC v))) :: (.d (S a)) :: (.d (S b)) :: .un :: .un :: .un :: .un :: .un :: .un :: .un :: .un :: .un :: .un :: .un :: .un :: .un :: .un :: .un :: .un :: .un :: .un :: .un :: .un :: .un :: .un :: .un :: .un :: .un :: .un :: .un :: .un :: .un :: .un :: .un :: .un :: .un :: .un :: .un :: .un :: .un :: .un :: .un :: .un :: .un :: .un :: .un :: .un :: .un :: .un :: .un :: .un :: .un :: .un :: .un :: .un :: .un :: .un :: .un :: .un :: .un :: .un :: .un :: .un :: .un :: .un :: .un :: .un :: .un :: .un :: .un :: .un :: .un :: .un :: .un :: .un :: .un :: .un :: .un :: .un :: .un :: .un :: .un :: .un :: .un :: .un :: .un :: .un :: .un :: .un :: .un :: .un :: .un :: .un :: .un :: .un :: .un :: .un :: .un :: .un :: .un :: .un :: .un :: .un :: .un :: .un :: .un :: .un :: .un :: .un :: .un :: .un :: .un :: .un :: .un :: .un :: .un :: .un :: .un :: .un :: .un :: .un :: .un :: .un :: .un :: .un :: .un :: .un :: .un :: .un :: .un :: .un :: .un :: .un :: .un :: .un :: .un :: .un :: .un :: .un :: .un :: .un :: .un :: .un :: .un :: .un :: .un :: .un :: .un :: .un :: .un :: .un :: .un :: .un :: .un :: .un :: .un :: .un :: .un :: .un :: .un :: .un :: .un :: .un :: .un :: .un :: .un :: .un :: .un :: .un :: .un :: .un :: .un :: .un :: .un :: .un :: .un :: .un :: [])) rfl ?_
  refine aw_seq ?_
  refine aw_region ?_
  apply al_stepN
  · exact op_box_elt (by rfl) (by rfl)
  · rfl
  · (try dsimp only [zS, zN, zH, zT]); try exact rfl
  apply al_stepN
  · exact op_box_elt (by rfl) (by rfl)
  · rfl
  · (try dsimp only [zS, zN, zH, zT]); try exact rfl
  apply al_stepN
  · exact op_box_ptr (cs := (vC u).map .d) (by intro h; cases h) (by rfl)
  · rfl
  · (try dsimp only [zS, zN, zH, zT]); try exact rfl
  apply al_stepN
  · exact op_box_ptr (cs := (vC v).map .d) (by intro h; cases h) (by rfl)
  · rfl
  · (try dsimp only [zS, zN, zH, zT]); try exact rfl
  apply al_stepN
  · exact op_assign_const (by rfl)
  · rfl
  · (try dsimp only [zS, zN, zH, zT]); try exact rfl
  apply al_end
  · (try dsimp only [zS, zN, zH, zT]); try exact rfl
  refine then_normal ?_
  refine aw_seq ?_
  refine aw_seq ?_
  refine aw_region ?_
  apply al_stepN
  · exact op_callF Try.func15 (by rfl) (by rfl) .nil (head_ok _)
  · rfl
  · (try dsimp only [zS, zN, zH, zT]); try exact rfl
  apply al_stepN
  · exact op_not (by rfl)
  · rfl
  · (try dsimp only [zS, zN, zH, zT]); try exact rfl
  apply al_end
  · (try dsimp only [zS, zN, zH, zT]); try exact rfl
  refine then_normal ?_
  refine aw_cond rfl (fun hc1 => ?_) (fun hc1 => ?_)
  · skip
    (try simp only [decide_eq_true_eq, decide_eq_false_iff_not, beq_iff_eq, beq_eq_false_iff_ne, Bool.not_eq_true', Bool.not_eq_false', bne_iff_ne, ne_eq, Decidable.not_not, bne_eq_false_iff_eq, List.length_map] at hc1)
    exact absurd hc1 (by decide)
  · skip
    (try simp only [decide_eq_true_eq, decide_eq_false_iff_not, beq_iff_eq, beq_eq_false_iff_ne, Bool.not_eq_true', Bool.not_eq_false', bne_iff_ne, ne_eq, Decidable.not_not, bne_eq_false_iff_eq, List.length_map] at hc1)
    refine aw_skip ?_
    refine then_normal ?_
    refine aw_seq ?_
    refine aw_seq ?_
    refine aw_region ?_
    apply al_stepN
    · exact op_load_elts (ds := [S cn, .lst 3 (ci.map ixD)]) Try.underlying25 (by rfl) Sz25 (by rfl) (Nat.le_of_ble_eq_true rfl) (by rfl)
    · rfl
    · (try dsimp only [zS, zN, zH, zT]); try exact rfl
    apply al_stepN
    · exact op_callF Try.func19 (by rfl) (by rfl) (.tmp (by rfl) .nil) (cfew_ok _ cn ci lc)
    · rfl
    · (try dsimp only [zS, zN, zH, zT]); try exact rfl
    apply al_stepN
    · exact op_not (by rfl)
    · rfl
    · (try dsimp only [zS, zN, zH, zT]); try exact rfl
    apply al_stepN
    · exact op_move_tmp (by rfl)
    · rfl
    · (try dsimp only [zS, zN, zH, zT]); try exact rfl
    refine al_split 24 rfl (fun hg2 => ?_) (fun hg2 => ?_)
    · skip
      (try simp only [decide_eq_true_eq, decide_eq_false_iff_not, beq_iff_eq, beq_eq_false_iff_ne, Bool.not_eq_true', Bool.not_eq_false', bne_iff_ne, ne_eq, Decidable.not_not, bne_eq_false_iff_eq, List.length_map] at hg2)
      apply al_normT
      · (try dsimp only [zS, zN, zH, zT]); try exact rfl
      refine al_unwanted rfl rfl rfl rfl ?_
      apply al_normT
      · (try dsimp only [zS, zN, zH, zT]); try exact rfl
      refine al_unwanted rfl rfl rfl rfl ?_
      apply al_normT
      · (try dsimp only [zS, zN, zH, zT]); try exact rfl
      refine al_unwanted rfl rfl rfl rfl ?_
      apply al_normT
      · (try dsimp only [zS, zN, zH, zT]); try exact rfl
      refine al_unwanted rfl rfl rfl rfl ?_
      apply al_normT
      · (try dsimp only [zS, zN, zH, zT]); try exact rfl
      apply al_stepN
      · exact op_pick_tt (by rfl) (val_const (by rfl))
      · rfl
      · (try dsimp only [zS, zN, zH, zT]); try exact rfl
      apply al_stepN
      · exact op_move_tmp (by rfl)
      · rfl
      · (try dsimp only [zS, zN, zH, zT]); try exact rfl
      refine al_unwanted rfl rfl rfl rfl ?_
      apply al_normT
      · (try dsimp only [zS, zN, zH, zT]); try exact rfl
      refine al_unwanted rfl rfl rfl rfl ?_
      apply al_normT
      · (try dsimp only [zS, zN, zH, zT]); try exact rfl
      refine al_unwanted rfl rfl rfl rfl ?_
      apply al_normT
      · (try dsimp only [zS, zN, zH, zT]); try exact rfl
      apply al_stepN
      · exact op_pick_tt (by rfl) (val_const (by rfl))
      · rfl
      · (try dsimp only [zS, zN, zH, zT]); try exact rfl
      apply al_stepN
      · exact op_move_tmp (by rfl)
      · rfl
      · (try dsimp only [zS, zN, zH, zT]); try exact rfl
      refine al_unwanted rfl rfl rfl rfl ?_
      apply al_normT
      · (try dsimp only [zS, zN, zH, zT]); try exact rfl
      refine al_unwanted rfl rfl rfl rfl ?_
      apply al_normT
      · (try dsimp only [zS, zN, zH, zT]); try exact rfl
      refine al_unwanted rfl rfl rfl rfl ?_
      apply al_normT
      · (try dsimp only [zS, zN, zH, zT]); try exact rfl
      apply al_stepN
      · exact op_pick_tt (by rfl) (val_const (by rfl))
      · rfl
      · (try dsimp only [zS, zN, zH, zT]); try exact rfl
      apply al_stepN
      · exact op_move_tmp (by rfl)
      · rfl
      · (try dsimp only [zS, zN, zH, zT]); try exact rfl
      refine al_unwanted rfl rfl rfl rfl ?_
      apply al_normT
      · (try dsimp only [zS, zN, zH, zT]); try exact rfl
      refine al_unwanted rfl rfl rfl rfl ?_
      apply al_normT
      · (try dsimp only [zS, zN, zH, zT]); try exact rfl
      refine al_unwanted rfl rfl rfl rfl ?_
      apply al_normT
      · (try dsimp only [zS, zN, zH, zT]); try exact rfl
      apply al_stepN
      · exact op_pick_tt (by rfl) (val_const (by rfl))
      · rfl
      · (try dsimp only [zS, zN, zH, zT]); try exact rfl
      apply al_stepN
      · exact op_move_tmp (by rfl)
      · rfl
      · (try dsimp only [zS, zN, zH, zT]); try exact rfl
      refine al_unwanted rfl rfl rfl rfl ?_
      apply al_normT
      · (try dsimp only [zS, zN, zH, zT]); try exact rfl
      refine al_unwanted rfl rfl rfl rfl ?_
      apply al_normT
      · (try dsimp only [zS, zN, zH, zT]); try exact rfl
      refine al_unwanted rfl rfl rfl rfl ?_
      apply al_normT
      · (try dsimp only [zS, zN, zH, zT]); try exact rfl
      apply al_stepN
      · exact op_pick_tt (by rfl) (val_const (by rfl))
      · rfl
      · (try dsimp only [zS, zN, zH, zT]); try exact rfl
      apply al_end
      · (try dsimp only [zS, zN, zH, zT]); try exact rfl
      refine then_normal ?_
      refine aw_cond rfl (fun _ => ?_) (fun h => by cases h)
      refine aw_seq ?_
      refine aw_region ?_
      apply al_stepN
      · exact op_assign_const (by rfl)
      · rfl
      · (try dsimp only [zS, zN, zH, zT]); try exact rfl
      apply al_end
      · (try dsimp only [zS, zN, zH, zT]); try exact rfl
      refine then_normal ?_
      refine aw_ret ?_
      refine then_ret ?_
      refine retPost1 rfl rfl ?_
      first | exact rfl | (simp [TF]; done)
    · skip
      (try simp only [decide_eq_true_eq, decide_eq_false_iff_not, beq_iff_eq, beq_eq_false_iff_ne, Bool.not_eq_true', Bool.not_eq_false', bne_iff_ne, ne_eq, Decidable.not_not, bne_eq_false_iff_eq, List.length_map] at hg2)
      have fc : fewC cn ci = true := by simpa using hg2
      obtain ⟨c12, cn60⟩ := fewC_parts fc
      apply al_normT
      · (try dsimp only [zS, zN, zH, zT]); try exact rfl
      apply al_wantedN
      · rfl
      · rfl
      · rfl
      · first | exact op_fieldAddr_ptr Try.underlying32 rfl Sz9 (by rfl) (by rfl) | exact op_fieldAddr_elt Try.underlying32 rfl Sz9 (by rfl) (by rfl) (by rfl)
      · (try dsimp only [zS, zN, zH, zT]); try exact rfl
      apply al_wantedN
      · rfl
      · rfl
      · rfl
      · first | exact op_load_elt Try.underlying9 (by rfl) (by rfl) (by rfl) | exact op_load_ptr Try.underlying9 (by rfl) (by rfl) (by rfl) (by rfl)
      · (try dsimp only [zS, zN, zH, zT]); try exact rfl
      apply al_wantedN
      · rfl
      · rfl
      · rfl
      · exact op_lenS Try.underlying9 (by rfl)
      · (try dsimp only [zS, zN, zH, zT]); try exact rfl
      apply al_wantedN
      · rfl
      · rfl
      · rfl
      · exact op_gtI (by rfl) (by rfl)
      · (try dsimp only [zS, zN, zH, zT]); try exact rfl
      apply al_stepN
      · exact op_pick_ff (by rfl) (val_tmp (by rfl))
      · rfl
      · (try dsimp only [zS, zN, zH, zT]); try exact rfl
      apply al_stepN
      · exact op_move_tmp (by rfl)
      · rfl
      · (try dsimp only [zS, zN, zH, zT]); try exact rfl
      refine al_split 30 rfl (fun hg4 => ?_) (fun hg4 => ?_)
      · skip
        (try simp only [decide_eq_true_eq, decide_eq_false_iff_not, beq_iff_eq, beq_eq_false_iff_ne, Bool.not_eq_true', Bool.not_eq_false', bne_iff_ne, ne_eq, Decidable.not_not, bne_eq_false_iff_eq, List.length_map] at hg4)
        apply al_normT
        · (try dsimp only [zS, zN, zH, zT]); try exact rfl
        refine al_unwanted rfl rfl rfl rfl ?_
        apply al_normT
        · (try dsimp only [zS, zN, zH, zT]); try exact rfl
        refine al_unwanted rfl rfl rfl rfl ?_
        apply al_normT
        · (try dsimp only [zS, zN, zH, zT]); try exact rfl
        refine al_unwanted rfl rfl rfl rfl ?_
        apply al_normT
        · (try dsimp only [zS, zN, zH, zT]); try exact rfl
        apply al_stepN
        · exact op_pick_tt (by rfl) (val_const (by rfl))
        · rfl
        · (try dsimp only [zS, zN, zH, zT]); try exact rfl
        apply al_stepN
        · exact op_move_tmp (by rfl)
        · rfl
        · (try dsimp only [zS, zN, zH, zT]); try exact rfl
        refine al_unwanted rfl rfl rfl rfl ?_
        apply al_normT
        · (try dsimp only [zS, zN, zH, zT]); try exact rfl
        refine al_unwanted rfl rfl rfl rfl ?_
        apply al_normT
        · (try dsimp only [zS, zN, zH, zT]); try exact rfl
        refine al_unwanted rfl rfl rfl rfl ?_
        apply al_normT
        · (try dsimp only [zS, zN, zH, zT]); try exact rfl
        apply al_stepN
        · exact op_pick_tt (by rfl) (val_const (by rfl))
        · rfl
        · (try dsimp only [zS, zN, zH, zT]); try exact rfl
        apply al_stepN
        · exact op_move_tmp (by rfl)
        · rfl
        · (try dsimp only [zS, zN, zH, zT]); try exact rfl
        refine al_unwanted rfl rfl rfl rfl ?_
        apply al_normT
        · (try dsimp only [zS, zN, zH, zT]); try exact rfl
        refine al_unwanted rfl rfl rfl rfl ?_
        apply al_normT
        · (try dsimp only [zS, zN, zH, zT]); try exact rfl
        refine al_unwanted rfl rfl rfl rfl ?_
        apply al_normT
        · (try dsimp only [zS, zN, zH, zT]); try exact rfl
        apply al_stepN
        · exact op_pick_tt (by rfl) (val_const (by rfl))
        · rfl
        · (try dsimp only [zS, zN, zH, zT]); try exact rfl
        apply al_stepN
        · exact op_move_tmp (by rfl)
        · rfl
        · (try dsimp only [zS, zN, zH, zT]); try exact rfl
        refine al_unwanted rfl rfl rfl rfl ?_
        apply al_normT
        · (try dsimp only [zS, zN, zH, zT]); try exact rfl
        refine al_unwanted rfl rfl rfl rfl ?_
        apply al_normT
        · (try dsimp only [zS, zN, zH, zT]); try exact rfl
        refine al_unwanted rfl rfl rfl rfl ?_
        apply al_normT
        · (try dsimp only [zS, zN, zH, zT]); try exact rfl
        apply al_stepN
        · exact op_pick_tt (by rfl) (val_const (by rfl))
        · rfl
        · (try dsimp only [zS, zN, zH, zT]); try exact rfl
        apply al_end
        · (try dsimp only [zS, zN, zH, zT]); try exact rfl
        refine then_normal ?_
        refine aw_cond rfl (fun _ => ?_) (fun h => by cases h)
        refine aw_seq ?_
        refine aw_region ?_
        apply al_stepN
        · exact op_assign_const (by rfl)
        · rfl
        · (try dsimp only [zS, zN, zH, zT]); try exact rfl
        apply al_end
        · (try dsimp only [zS, zN, zH, zT]); try exact rfl
        refine then_normal ?_
        refine aw_ret ?_
        refine then_ret ?_
        refine retPost1 rfl rfl ?_
        first | exact rfl | (simp [TF]; done)
      · skip
        (try simp only [decide_eq_true_eq, decide_eq_false_iff_not, beq_iff_eq, beq_eq_false_iff_ne, Bool.not_eq_true', Bool.not_eq_false', bne_iff_ne, ne_eq, Decidable.not_not, bne_eq_false_iff_eq, List.length_map] at hg4)
        have hx60 : x.name.length ≤ 60 := by have h : ¬ 60 < (x.name.length : Int) := hg4; omega
        apply al_normT
        · (try dsimp only [zS, zN, zH, zT]); try exact rfl
        apply al_wantedN
        · rfl
        · rfl
        · rfl
        · exact op_load_ptrsD (vC u) Try.underlying37 (by rfl) Sz37 (by rfl) (push_ne push_at) (by show 0 + 6 ≤ ((vC u).map AV.d).length; rw [List.length_map, vC_len]; exact Nat.le_refl _) (by show (((vC u).map AV.d).drop 0).take 6 = _; rw [List.drop_zero, List.take_of_length_le (by rw [List.length_map, vC_len]; exact Nat.le_refl _)]) (vC_one u)
        · (try dsimp only [zS, zN, zH, zT]); try exact rfl
        apply al_wantedN
        · rfl
        · rfl
        · rfl
        · exact op_callF Try.func20 (by rfl) (by rfl) (.tmp (by rfl) (.const (by rfl) .nil)) (few_ok 7 u (by decide) _)
        · (try dsimp only [zS, zN, zH, zT]); try exact rfl
        apply al_wantedN
        · rfl
        · rfl
        · rfl
        · exact op_not (by rfl)
        · (try dsimp only [zS, zN, zH, zT]); try exact rfl
        apply al_stepN
        · exact op_pick_ff (by rfl) (val_tmp (by rfl))
        · rfl
        · (try dsimp only [zS, zN, zH, zT]); try exact rfl
        apply al_stepN
        · exact op_move_tmp (by rfl)
        · rfl
        · (try dsimp only [zS, zN, zH, zT]); try exact rfl
        refine al_split 35 rfl (fun hg6 => ?_) (fun hg6 => ?_)
        · skip
          (try simp only [decide_eq_true_eq, decide_eq_false_iff_not, beq_iff_eq, beq_eq_false_iff_ne, Bool.not_eq_true', Bool.not_eq_false', bne_iff_ne, ne_eq, Decidable.not_not, bne_eq_false_iff_eq, List.length_map] at hg6)
          apply al_normT
          · (try dsimp only [zS, zN, zH, zT]); try exact rfl
          refine al_unwanted rfl rfl rfl rfl ?_
          apply al_normT
          · (try dsimp only [zS, zN, zH, zT]); try exact rfl
          refine al_unwanted rfl rfl rfl rfl ?_
          apply al_normT
          · (try dsimp only [zS, zN, zH, zT]); try exact rfl
          refine al_unwanted rfl rfl rfl rfl ?_
          apply al_normT
          · (try dsimp only [zS, zN, zH, zT]); try exact rfl
          apply al_stepN
          · exact op_pick_tt (by rfl) (val_const (by rfl))
          · rfl
          · (try dsimp only [zS, zN, zH, zT]); try exact rfl
          apply al_stepN
          · exact op_move_tmp (by rfl)
          · rfl
          · (try dsimp only [zS, zN, zH, zT]); try exact rfl
          refine al_unwanted rfl rfl rfl rfl ?_
          apply al_normT
          · (try dsimp only [zS, zN, zH, zT]); try exact rfl
          refine al_unwanted rfl rfl rfl rfl ?_
          apply al_normT
          · (try dsimp only [zS, zN, zH, zT]); try exact rfl
          refine al_unwanted rfl rfl rfl rfl ?_
          apply al_normT
          · (try dsimp only [zS, zN, zH, zT]); try exact rfl
          apply al_stepN
          · exact op_pick_tt (by rfl) (val_const (by rfl))
          · rfl
          · (try dsimp only [zS, zN, zH, zT]); try exact rfl
          apply al_stepN
          · exact op_move_tmp (by rfl)
          · rfl
          · (try dsimp only [zS, zN, zH, zT]); try exact rfl
          refine al_unwanted rfl rfl rfl rfl ?_
          apply al_normT
          · (try dsimp only [zS, zN, zH, zT]); try exact rfl
          refine al_unwanted rfl rfl rfl rfl ?_
          apply al_normT
          · (try dsimp only [zS, zN, zH, zT]); try exact rfl
          refine al_unwanted rfl rfl rfl rfl ?_
          apply al_normT
          · (try dsimp only [zS, zN, zH, zT]); try exact rfl
          apply al_stepN
          · exact op_pick_tt (by rfl) (val_const (by rfl))
          · rfl
          · (try dsimp only [zS, zN, zH, zT]); try exact rfl
          apply al_end
          · (try dsimp only [zS, zN, zH, zT]); try exact rfl
          refine then_normal ?_
          refine aw_cond rfl (fun _ => ?_) (fun h => by cases h)
          refine aw_seq ?_
          refine aw_region ?_
          apply al_stepN
          · exact op_assign_const (by rfl)
          · rfl
          · (try dsimp only [zS, zN, zH, zT]); try exact rfl
          apply al_end
          · (try dsimp only [zS, zN, zH, zT]); try exact rfl
          refine then_normal ?_
          refine aw_ret ?_
          refine then_ret ?_
          refine retPost1 rfl rfl ?_
          first | exact rfl | (simp [TF]; done)
        · skip
          (try simp only [decide_eq_true_eq, decide_eq_false_iff_not, beq_iff_eq, beq_eq_false_iff_ne, Bool.not_eq_true', Bool.not_eq_false', bne_iff_ne, ne_eq, Decidable.not_not, bne_eq_false_iff_eq, List.length_map] at hg6)
          have hfu : fewV 7 u = true := by simpa using hg6
          apply al_normT
          · (try dsimp only [zS, zN, zH, zT]); try exact rfl
          apply al_wantedN
          · rfl
          · rfl
          · rfl
          · exact op_load_ptrsD (vC v) Try.underlying37 (by rfl) Sz37 (by rfl) push_at (by show 0 + 6 ≤ ((vC v).map AV.d).length; rw [List.length_map, vC_len]; exact Nat.le_refl _) (by show (((vC v).map AV.d).drop 0).take 6 = _; rw [List.drop_zero, List.take_of_length_le (by rw [List.length_map, vC_len]; exact Nat.le_refl _)]) (vC_one v)
          · (try dsimp only [zS, zN, zH, zT]); try exact rfl
          apply al_wantedN
          · rfl
          · rfl
          · rfl
          · exact op_callF Try.func20 (by rfl) (by rfl) (.tmp (by rfl) (.const (by rfl) .nil)) (few_ok 7 v (by decide) _)
          · (try dsimp only [zS, zN, zH, zT]); try exact rfl
          apply al_wantedN
          · rfl
          · rfl
          · rfl
          · exact op_not (by rfl)
          · (try dsimp only [zS, zN, zH, zT]); try exact rfl
          apply al_stepN
          · exact op_pick_ff (by rfl) (val_tmp (by rfl))
          · rfl
          · (try dsimp only [zS, zN, zH, zT]); try exact rfl
          apply al_stepN
          · exact op_move_tmp (by rfl)
          · rfl
          · (try dsimp only [zS, zN, zH, zT]); try exact rfl
          refine al_split 40 rfl (fun hg8 => ?_) (fun hg8 => ?_)
          · skip
            (try simp only [decide_eq_true_eq, decide_eq_false_iff_not, beq_iff_eq, beq_eq_false_iff_ne, Bool.not_eq_true', Bool.not_eq_false', bne_iff_ne, ne_eq, Decidable.not_not, bne_eq_false_iff_eq, List.length_map] at hg8)
            apply al_normT
            · (try dsimp only [zS, zN, zH, zT]); try exact rfl
            refine al_unwanted rfl rfl rfl rfl ?_
            apply al_normT
            · (try dsimp only [zS, zN, zH, zT]); try exact rfl
            refine al_unwanted rfl rfl rfl rfl ?_
            apply al_normT
            · (try dsimp only [zS, zN, zH, zT]); try exact rfl
            refine al_unwanted rfl rfl rfl rfl ?_
            apply al_normT
            · (try dsimp only [zS, zN, zH, zT]); try exact rfl
            apply al_stepN
            · exact op_pick_tt (by rfl) (val_const (by rfl))
            · rfl
            · (try dsimp only [zS, zN, zH, zT]); try exact rfl
            apply al_stepN
            · exact op_move_tmp (by rfl)
            · rfl
            · (try dsimp only [zS, zN, zH, zT]); try exact rfl
            refine al_unwanted rfl rfl rfl rfl ?_
            apply al_normT
            · (try dsimp only [zS, zN, zH, zT]); try exact rfl
            refine al_unwanted rfl rfl rfl rfl ?_
            apply al_normT
            · (try dsimp only [zS, zN, zH, zT]); try exact rfl
            refine al_unwanted rfl rfl rfl rfl ?_
            apply al_normT
            · (try dsimp only [zS, zN, zH, zT]); try exact rfl
            apply al_stepN
            · exact op_pick_tt (by rfl) (val_const (by rfl))
            · rfl
            · (try dsimp only [zS, zN, zH, zT]); try exact rfl
            apply al_end
            · (try dsimp only [zS, zN, zH, zT]); try exact rfl
            refine then_normal ?_
            refine aw_cond rfl (fun _ => ?_) (fun h => by cases h)
            refine aw_seq ?_
            refine aw_region ?_
            apply al_stepN
            · exact op_assign_const (by rfl)
            · rfl
            · (try dsimp only [zS, zN, zH, zT]); try exact rfl
            apply al_end
            · (try dsimp only [zS, zN, zH, zT]); try exact rfl
            refine then_normal ?_
            refine aw_ret ?_
            refine then_ret ?_
            refine retPost1 rfl rfl ?_
            first | exact rfl | (simp [TF]; done)
          · skip
            (try simp only [decide_eq_true_eq, decide_eq_false_iff_not, beq_iff_eq, beq_eq_false_iff_ne, Bool.not_eq_true', Bool.not_eq_false', bne_iff_ne, ne_eq, Decidable.not_not, bne_eq_false_iff_eq, List.length_map] at hg8)
            have hfv : fewV 7 v = true := by simpa using hg8
            apply al_normT
            · (try dsimp only [zS, zN, zH, zT]); try exact rfl
            apply al_wantedN
            · rfl
            · rfl
            · rfl
            · exact op_move_tmp (by rfl)
            · (try dsimp only [zS, zN, zH, zT]); try exact rfl
            apply al_wantedN
            · rfl
            · rfl
            · rfl
            · exact op_lenS Try.underlying9 (by rfl)
            · (try dsimp only [zS, zN, zH, zT]); try exact rfl
            apply al_wantedN
            · rfl
            · rfl
            · rfl
            · exact op_gtI (by rfl) (by rfl)
            · (try dsimp only [zS, zN, zH, zT]); try exact rfl
            apply al_stepN
            · exact op_pick_ff (by rfl) (val_tmp (by rfl))
            · rfl
            · (try dsimp only [zS, zN, zH, zT]); try exact rfl
            apply al_stepN
            · exact op_move_tmp (by rfl)
            · rfl
            · (try dsimp only [zS, zN, zH, zT]); try exact rfl
            refine al_split 45 rfl (fun hg10 => ?_) (fun hg10 => ?_)
            · skip
              (try simp only [decide_eq_true_eq, decide_eq_false_iff_not, beq_iff_eq, beq_eq_false_iff_ne, Bool.not_eq_true', Bool.not_eq_false', bne_iff_ne, ne_eq, Decidable.not_not, bne_eq_false_iff_eq, List.length_map] at hg10)
              apply al_normT
              · (try dsimp only [zS, zN, zH, zT]); try exact rfl
              refine al_unwanted rfl rfl rfl rfl ?_
              apply al_normT
              · (try dsimp only [zS, zN, zH, zT]); try exact rfl
              refine al_unwanted rfl rfl rfl rfl ?_
              apply al_normT
              · (try dsimp only [zS, zN, zH, zT]); try exact rfl
              refine al_unwanted rfl rfl rfl rfl ?_
              apply al_normT
              · (try dsimp only [zS, zN, zH, zT]); try exact rfl
              apply al_stepN
              · exact op_pick_tt (by rfl) (val_const (by rfl))
              · rfl
              · (try dsimp only [zS, zN, zH, zT]); try exact rfl
              apply al_end
              · (try dsimp only [zS, zN, zH, zT]); try exact rfl
              refine then_normal ?_
              refine aw_cond rfl (fun _ => ?_) (fun h => by cases h)
              refine aw_seq ?_
              refine aw_region ?_
              apply al_stepN
              · exact op_assign_const (by rfl)
              · rfl
              · (try dsimp only [zS, zN, zH, zT]); try exact rfl
              apply al_end
              · (try dsimp only [zS, zN, zH, zT]); try exact rfl
              refine then_normal ?_
              refine aw_ret ?_
              refine then_ret ?_
              refine retPost1 rfl rfl ?_
              first | exact rfl | (simp [TF]; done)
            · skip
              (try simp only [decide_eq_true_eq, decide_eq_false_iff_not, beq_iff_eq, beq_eq_false_iff_ne, Bool.not_eq_true', Bool.not_eq_false', bne_iff_ne, ne_eq, Decidable.not_not, bne_eq_false_iff_eq, List.length_map] at hg10)
              have ha60 : a.length ≤ 60 := by have h : ¬ 60 < (a.length : Int) := hg10; omega
              apply al_normT
              · (try dsimp only [zS, zN, zH, zT]); try exact rfl
              apply al_wantedN
              · rfl
              · rfl
              · rfl
              · exact op_move_tmp (by rfl)
              · (try dsimp only [zS, zN, zH, zT]); try exact rfl
              apply al_wantedN
              · rfl
              · rfl
              · rfl
              · exact op_lenS Try.underlying9 (by rfl)
              · (try dsimp only [zS, zN, zH, zT]); try exact rfl
              apply al_wantedN
              · rfl
              · rfl
              · rfl
              · exact op_gtI (by rfl) (by rfl)
              · (try dsimp only [zS, zN, zH, zT]); try exact rfl
              apply al_stepN
              · exact op_pick_ff (by rfl) (val_tmp (by rfl))
              · rfl
              · (try dsimp only [zS, zN, zH, zT]); try exact rfl
              apply al_end
              · (try dsimp only [zS, zN, zH, zT]); try exact rfl
              refine then_normal ?_
              refine aw_cond rfl (fun hc12 => ?_) (fun hc12 => ?_)
              · skip
                (try simp only [decide_eq_true_eq, decide_eq_false_iff_not, beq_iff_eq, beq_eq_false_iff_ne, Bool.not_eq_true', Bool.not_eq_false', bne_iff_ne, ne_eq, Decidable.not_not, bne_eq_false_iff_eq, List.length_map] at hc12)
                refine aw_seq ?_
                refine aw_region ?_
                apply al_stepN
                · exact op_assign_const (by rfl)
                · rfl
                · (try dsimp only [zS, zN, zH, zT]); try exact rfl
                apply al_end
                · (try dsimp only [zS, zN, zH, zT]); try exact rfl
                refine then_normal ?_
                refine aw_ret ?_
                refine then_ret ?_
                refine retPost1 rfl rfl ?_
                first | exact rfl | (simp [TF]; done)
              · skip
                (try simp only [decide_eq_true_eq, decide_eq_false_iff_not, beq_iff_eq, beq_eq_false_iff_ne, Bool.not_eq_true', Bool.not_eq_false', bne_iff_ne, ne_eq, Decidable.not_not, bne_eq_false_iff_eq, List.length_map] at hc12)
                have hb60 : b.length ≤ 60 := by have h : ¬ 60 < (b.length : Int) := hc12; omega
                obtain ⟨ru, su, vu, _⟩ := law_parts hfu wu
                have ou := law_ord hfu wu
                obtain ⟨rv, sv, vv, _⟩ := law_parts hfv wv
                have ov := law_ord hfv wv
                have hby := entry_by ru rv vu vv cn x.name x.uniq a b
                refine aw_skip ?_
                refine then_normal ?_
                refine aw_seq ?_
                refine aw_region ?_
                apply al_stepN
                · exact op_load_ptrsD (vC u) Try.underlying37 (by rfl) Sz37 (by rfl) (push_ne push_at) (by show 0 + 6 ≤ ((vC u).map AV.d).length; rw [List.length_map, vC_len]; exact Nat.le_refl _) (by show (((vC u).map AV.d).drop 0).take 6 = _; rw [List.drop_zero, List.take_of_length_le (by rw [List.length_map, vC_len]; exact Nat.le_refl _)]) (vC_one u)
                · rfl
                · (try dsimp only [zS, zN, zH, zT]); try exact rfl
                apply al_stepN
                · exact op_callF Try.func21 (by rfl) (by rfl) (.tmp (by rfl) .nil) (lawR_all 7 u hfu _)
                · rfl
                · (try dsimp only [zS, zN, zH, zT]); try exact rfl
                apply al_stepN
                · exact op_storeVV u (lawR u) Sz37 (by rfl) (push_ne push_at) (by rfl)
                · rfl
                · (try dsimp only [zS, zN, zH, zT]); try exact rfl
                apply al_end
                · (try dsimp only [zS, zN, zH, zT]); try exact rfl
                refine then_normal ?_
                refine aw_seq ?_
                refine aw_region ?_
                apply al_stepN
                · exact op_load_ptrsD (vC v) Try.underlying37 (by rfl) Sz37 (by rfl) (by first | (rw [setB_ne (by simp only [push_nb, ne_eq]; omega)]; exact push_at)) (by show 0 + 6 ≤ ((vC v).map AV.d).length; rw [List.length_map, vC_len]; exact Nat.le_refl _) (by show (((vC v).map AV.d).drop 0).take 6 = _; rw [List.drop_zero, List.take_of_length_le (by rw [List.length_map, vC_len]; exact Nat.le_refl _)]) (vC_one v)
                · rfl
                · (try dsimp only [zS, zN, zH, zT]); try exact rfl
                apply al_stepN
                · exact op_callF Try.func21 (by rfl) (by rfl) (.tmp (by rfl) .nil) (lawR_all 7 v hfv _)
                · rfl
                · (try dsimp only [zS, zN, zH, zT]); try exact rfl
                apply al_stepN
                · exact op_storeVV v (lawR v) Sz37 (by rfl) (by first | (rw [setB_ne (by simp only [push_nb, ne_eq]; omega)]; exact push_at)) (by rfl)
                · rfl
                · (try dsimp only [zS, zN, zH, zT]); try exact rfl
                apply al_end
                · (try dsimp only [zS, zN, zH, zT]); try exact rfl
                refine then_normal ?_
                refine aw_seq ?_
                refine aw_region ?_
                apply al_stepN
                · exact op_load_elts (ds := [S cn, .lst 3 (ci.map ixD)]) Try.underlying25 (by rfl) Sz25 (by rfl) (Nat.le_of_ble_eq_true rfl) (by rfl)
                · rfl
                · (try dsimp only [zS, zN, zH, zT]); try exact rfl
                apply al_stepN
                · exact op_load_elts (ds := ixC x) Try.underlying32 (by rfl) Sz32 (by rfl) (Nat.le_of_ble_eq_true rfl) (by rfl)
                · rfl
                · (try dsimp only [zS, zN, zH, zT]); try exact rfl
                apply al_stepN
                · exact op_load_ptrsD (vC (lawR u)) Try.underlying37 (by rfl) Sz37 (by rfl) (by rw [setB_ne (by simp only [push_nb, ne_eq]; omega)]; exact setB_at (push_ne push_at)) (by show 0 + 6 ≤ ((vC (lawR u)).map AV.d).length; rw [List.length_map, vC_len]; exact Nat.le_refl _) (by show (((vC (lawR u)).map AV.d).drop 0).take 6 = _; rw [List.drop_zero, List.take_of_length_le (by rw [List.length_map, vC_len]; exact Nat.le_refl _)]) (vC_one (lawR u))
                · rfl
                · (try dsimp only [zS, zN, zH, zT]); try exact rfl
                apply al_stepN
                · exact op_move_tmp (by rfl)
                · rfl
                · (try dsimp only [zS, zN, zH, zT]); try exact rfl
                apply al_stepN
                · exact op_callF Try.func23 (by rfl) (by rfl) (.tmp (by rfl) (.tmp (by rfl) (.tmp (by rfl) (.tmp (by rfl) .nil)))) (centry_ok _ cn _ x.name _ x.uniq (lawR u) a (by omega) (by omega) (by omega) ru vu ou)
                · rfl
                · (try dsimp only [zS, zN, zH, zT]); try exact rfl
                apply al_stepN
                · exact op_assign_tmp (by rfl)
                · rfl
                · (try dsimp only [zS, zN, zH, zT]); try exact rfl
                apply al_end
                · (try dsimp only [zS, zN, zH, zT]); try exact rfl
                refine then_normal ?_
                refine aw_seq ?_
                refine aw_region ?_
                apply al_stepN
                · exact op_load_elts (ds := [S cn, .lst 3 (ci.map ixD)]) Try.underlying25 (by rfl) Sz25 (by rfl) (Nat.le_of_ble_eq_true rfl) (by rfl)
                · rfl
                · (try dsimp only [zS, zN, zH, zT]); try exact rfl
                apply al_stepN
                · exact op_load_elts (ds := ixC x) Try.underlying32 (by rfl) Sz32 (by rfl) (Nat.le_of_ble_eq_true rfl) (by rfl)
                · rfl
                · (try dsimp only [zS, zN, zH, zT]); try exact rfl
                apply al_stepN
                · exact op_load_ptrsD (vC (lawR v)) Try.underlying37 (by rfl) Sz37 (by rfl) (setB_at (by first | (rw [setB_ne (by simp only [push_nb, ne_eq]; omega)]; exact push_at))) (by show 0 + 6 ≤ ((vC (lawR v)).map AV.d).length; rw [List.length_map, vC_len]; exact Nat.le_refl _) (by show (((vC (lawR v)).map AV.d).drop 0).take 6 = _; rw [List.drop_zero, List.take_of_length_le (by rw [List.length_map, vC_len]; exact Nat.le_refl _)]) (vC_one (lawR v))
                · rfl
                · (try dsimp only [zS, zN, zH, zT]); try exact rfl
                apply al_stepN
                · exact op_move_tmp (by rfl)
                · rfl
                · (try dsimp only [zS, zN, zH, zT]); try exact rfl
                apply al_stepN
                · exact op_callF Try.func23 (by rfl) (by rfl) (.tmp (by rfl) (.tmp (by rfl) (.tmp (by rfl) (.tmp (by rfl) .nil)))) (centry_ok _ cn _ x.name _ x.uniq (lawR v) b (by omega) (by omega) (by omega) rv vv ov)
                · rfl
                · (try dsimp only [zS, zN, zH, zT]); try exact rfl
                apply al_stepN
                · exact op_assign_tmp (by rfl)
                · rfl
                · (try dsimp only [zS, zN, zH, zT]); try exact rfl
                apply al_end
                · (try dsimp only [zS, zN, zH, zT]); try exact rfl
                refine then_normal ?_
                refine aw_seq ?_
                refine aw_region ?_
                apply al_stepN
                · exact op_load_ptrsD (vC (lawR u)) Try.underlying37 (by rfl) Sz37 (by rfl) (by rw [setB_ne (by simp only [push_nb, ne_eq]; omega)]; exact setB_at (push_ne push_at)) (by show 0 + 6 ≤ ((vC (lawR u)).map AV.d).length; rw [List.length_map, vC_len]; exact Nat.le_refl _) (by show (((vC (lawR u)).map AV.d).drop 0).take 6 = _; rw [List.drop_zero, List.take_of_length_le (by rw [List.length_map, vC_len]; exact Nat.le_refl _)]) (vC_one (lawR u))
                · rfl
                · (try dsimp only [zS, zN, zH, zT]); try exact rfl
                apply al_stepN
                · exact op_load_ptrsD (vC (lawR v)) Try.underlying37 (by rfl) Sz37 (by rfl) (setB_at (by first | (rw [setB_ne (by simp only [push_nb, ne_eq]; omega)]; exact push_at))) (by show 0 + 6 ≤ ((vC (lawR v)).map AV.d).length; rw [List.length_map, vC_len]; exact Nat.le_refl _) (by show (((vC (lawR v)).map AV.d).drop 0).take 6 = _; rw [List.drop_zero, List.take_of_length_le (by rw [List.length_map, vC_len]; exact Nat.le_refl _)]) (vC_one (lawR v))
                · rfl
                · (try dsimp only [zS, zN, zH, zT]); try exact rfl
                apply al_stepN
                · exact op_callF Try.func28 (by rfl) (by rfl) (.tmp (by rfl) (.tmp (by rfl) .nil)) (cmp_ok _ (lawR u) (lawR v) su sv)
                · rfl
                · (try dsimp only [zS, zN, zH, zT]); try exact rfl
                apply al_stepN
                · exact op_assign_tmp (by rfl)
                · rfl
                · (try dsimp only [zS, zN, zH, zT]); try exact rfl
                apply al_end
                · (try dsimp only [zS, zN, zH, zT]); try exact rfl
                refine then_normal ?_
                apply aw_cutF (fun T H => ∃ (o : Int), T = (.un :: .un :: .un :: .un :: (.d (S a)) :: (.d (S b)) :: (.elt [S cn, .lst 3 (ci.map ixD)]) :: (.elt (ixC x)) :: .un :: .un :: .un :: .un :: .un :: (.d (S (entryL cn x.name x.uniq (lawR u) a))) :: (.d (S (entryL cn x.name x.uniq (lawR v) b))) :: (.d (I o)) :: .un :: .un :: .un :: .un :: .un :: .un :: .un :: .un :: .un :: .un :: .un :: .un :: .un :: .un :: .un :: .un :: .un :: .un :: .un :: .un :: .un :: .un :: .un :: .un :: .un :: .un :: .un :: .un :: .un :: .un :: .un :: .un :: .un :: .un :: .un :: .un :: .un :: .un :: .un :: .un :: .un :: .un :: .un :: .un :: .un :: .un :: .un :: .un :: .un :: .un :: .un :: .un :: .un :: .un :: .un :: .un :: .un :: .un :: .un :: .un :: .un :: .un :: .un :: .un :: .un :: .un :: .un :: .un :: .un :: .un :: .un :: .un :: .un :: .un :: .un :: .un :: .un :: .un :: .un :: .un :: .un :: .un :: .un :: .un :: .un :: .un :: .un :: .un :: .un :: .un :: .un :: .un :: .un :: .un :: .un :: .un :: .un :: .un :: .un :: .un :: .un :: .un :: .un :: .un :: .un :: .un :: .un :: .un :: .un :: .un :: .un :: .un :: .un :: .un :: .un :: .un :: .un :: .un :: .un :: .un :: .un :: .un :: .un :: .un :: .un :: .un :: .un :: .un :: .un :: .un :: .un :: .un :: .un :: .un :: .un :: .un :: .un :: .un :: .un :: .un :: .un :: .un :: .un :: .un :: .un :: .un :: .un :: .un :: .un :: .un :: .un :: .un :: .un :: .un :: .un :: .un :: .un :: .un :: .un :: .un :: .un :: .un :: .un :: .un :: []) ∧ o = ordE x.uniq (cmpV (lawR u) (lawR v)) a b)
                · skip
                  refine aw_seq ?_
                  refine aw_region ?_
                  apply al_stepN
                  · exact op_move_tmp (by rfl)
                  · rfl
                  · (try dsimp only [zS, zN, zH, zT]); try exact rfl
                  apply al_stepN
                  · exact op_eqI (by rfl) (by rfl)
                  · rfl
                  · (try dsimp only [zS, zN, zH, zT]); try exact rfl
                  apply al_stepN
                  · exact op_move_tmp (by rfl)
                  · rfl
                  · (try dsimp only [zS, zN, zH, zT]); try exact rfl
                  refine al_split 69 rfl (fun hg13 => ?_) (fun hg13 => ?_)
                  · skip
                    (try simp only [decide_eq_true_eq, decide_eq_false_iff_not, beq_iff_eq, beq_eq_false_iff_ne, Bool.not_eq_true', Bool.not_eq_false', bne_iff_ne, ne_eq, Decidable.not_not, bne_eq_false_iff_eq, List.length_map] at hg13)
                    have hc0 : cmpV (lawR u) (lawR v) = 0 := hg13
                    apply al_normT
                    · (try dsimp only [zS, zN, zH, zT]); try exact rfl
                    apply al_wantedN
                    · rfl
                    · rfl
                    · rfl
                    · first | exact op_fieldAddr_ptr Try.underlying32 rfl Sz4 (by rfl) (by rfl) | exact op_fieldAddr_elt Try.underlying32 rfl Sz4 (by rfl) (by rfl) (by rfl)
                    · (try dsimp only [zS, zN, zH, zT]); try exact rfl
                    apply al_wantedN
                    · rfl
                    · rfl
                    · rfl
                    · first | exact op_load_elt Try.underlying4 (by rfl) (by rfl) (by rfl) | exact op_load_ptr Try.underlying4 (by rfl) (by rfl) (by rfl) (by rfl)
                    · (try dsimp only [zS, zN, zH, zT]); try exact rfl
                    apply al_wantedN
                    · rfl
                    · rfl
                    · rfl
                    · exact op_not (by rfl)
                    · (try dsimp only [zS, zN, zH, zT]); try exact rfl
                    apply al_stepN
                    · exact op_pick_tt (by rfl) (val_tmp (by rfl))
                    · rfl
                    · (try dsimp only [zS, zN, zH, zT]); try exact rfl
                    apply al_end
                    · (try dsimp only [zS, zN, zH, zT]); try exact rfl
                    refine then_normal ?_
                    refine aw_cond rfl (fun hc14 => ?_) (fun hc14 => ?_)
                    · skip
                      (try simp only [decide_eq_true_eq, decide_eq_false_iff_not, beq_iff_eq, beq_eq_false_iff_ne, Bool.not_eq_true', Bool.not_eq_false', bne_iff_ne, ne_eq, Decidable.not_not, bne_eq_false_iff_eq, List.length_map] at hc14)
                      have huq : x.uniq = false := by simpa using hc14
                      refine aw_seq ?_
                      refine aw_seq ?_
                      refine aw_region ?_
                      apply al_stepN
                      · exact op_move_tmp (by rfl)
                      · rfl
                      · (try dsimp only [zS, zN, zH, zT]); try exact rfl
                      apply al_stepN
                      · exact op_move_tmp (by rfl)
                      · rfl
                      · (try dsimp only [zS, zN, zH, zT]); try exact rfl
                      apply al_stepN
                      · exact op_ltS (by rfl) (by rfl)
                      · rfl
                      · (try dsimp only [zS, zN, zH, zT]); try exact rfl
                      apply al_end
                      · (try dsimp only [zS, zN, zH, zT]); try exact rfl
                      refine then_normal ?_
                      refine aw_cond rfl (fun hc15 => ?_) (fun hc15 => ?_)
                      · skip
                        (try simp only [decide_eq_true_eq, decide_eq_false_iff_not, beq_iff_eq, beq_eq_false_iff_ne, Bool.not_eq_true', Bool.not_eq_false', bne_iff_ne, ne_eq, Decidable.not_not, bne_eq_false_iff_eq, List.length_map] at hc15)
                        have hab : Go.Op.bytesLess a b = true := hc15
                        refine aw_region ?_
                        apply al_stepN
                        · exact op_assign_const (by rfl)
                        · rfl
                        · (try dsimp only [zS, zN, zH, zT]); try exact rfl
                        apply al_end
                        · (try dsimp only [zS, zN, zH, zT]); try exact rfl
                        refine then_normal ?_
                        refine aw_seq ?_
                        refine aw_region ?_
                        apply al_stepN
                        · exact op_move_tmp (by rfl)
                        · rfl
                        · (try dsimp only [zS, zN, zH, zT]); try exact rfl
                        apply al_stepN
                        · exact op_move_tmp (by rfl)
                        · rfl
                        · (try dsimp only [zS, zN, zH, zT]); try exact rfl
                        apply al_stepN
                        · exact op_gtS (by rfl) (by rfl)
                        · rfl
                        · (try dsimp only [zS, zN, zH, zT]); try exact rfl
                        apply al_end
                        · (try dsimp only [zS, zN, zH, zT]); try exact rfl
                        refine then_normal ?_
                        refine aw_cond rfl (fun hc16 => ?_) (fun hc16 => ?_)
                        · skip
                          (try simp only [decide_eq_true_eq, decide_eq_false_iff_not, beq_iff_eq, beq_eq_false_iff_ne, Bool.not_eq_true', Bool.not_eq_false', bne_iff_ne, ne_eq, Decidable.not_not, bne_eq_false_iff_eq, List.length_map] at hc16)
                          have hba : (!(Go.Op.bytesLess a b || a == b)) = true := by simpa using hc16
                          refine aw_region ?_
                          apply al_stepN
                          · exact op_assign_const (by rfl)
                          · rfl
                          · (try dsimp only [zS, zN, zH, zT]); try exact rfl
                          apply al_end
                          · (try dsimp only [zS, zN, zH, zT]); try exact rfl
                          apply cut_to (false :: false :: false :: false :: true :: true :: true :: true :: false :: false :: false :: false :: false :: true :: true :: true :: false :: false :: false :: false :: false :: false :: false :: false :: false :: false :: false :: false :: false :: false :: false :: false :: false :: false :: false :: false :: false :: false :: false :: false :: false :: false :: false :: false :: false :: false :: false :: false :: false :: false :: false :: false :: false :: false :: false :: false :: false :: false :: false :: false :: false :: false :: false :: false :: false :: false :: false :: false :: false :: false :: false :: false :: false :: false :: false :: false :: false :: false :: false :: false :: false :: false :: false :: false :: false :: false :: false :: false :: false :: false :: false :: false :: false :: false :: false :: false :: false :: false :: false :: false :: false :: false :: false :: false :: false :: false :: false :: false :: false :: false :: false :: false :: false :: false :: false :: false :: false :: false :: false :: false :: false :: false :: false :: false :: false :: false :: false :: false :: false :: false :: false :: false :: false :: false :: false :: false :: false :: false :: false :: false :: false :: false :: false :: false :: false :: false :: false :: false :: false :: false :: false :: false :: false :: false :: false :: false :: false :: false :: false :: false :: false :: false :: false :: false :: false :: false :: false :: false :: false :: false :: false :: false :: false :: false :: false :: false :: false :: false :: false :: false :: [])
                          · (try dsimp only [maskT]); try exact rfl
                          · rfl
                          exact ⟨1, rfl, by rw [hab] at hba; simp at hba⟩
                        · skip
                          (try simp only [decide_eq_true_eq, decide_eq_false_iff_not, beq_iff_eq, beq_eq_false_iff_ne, Bool.not_eq_true', Bool.not_eq_false', bne_iff_ne, ne_eq, Decidable.not_not, bne_eq_false_iff_eq, List.length_map] at hc16)
                          have hba : (!(Go.Op.bytesLess a b || a == b)) = false := by rcases (show Go.Op.bytesLess a b = true ∨ a = b by simpa using hc16) with h | h <;> simp [h]
                          refine aw_skip ?_
                          apply cut_to (false :: false :: false :: false :: true :: true :: true :: true :: false :: false :: false :: false :: false :: true :: true :: true :: false :: false :: false :: false :: false :: false :: false :: false :: false :: false :: false :: false :: false :: false :: false :: false :: false :: false :: false :: false :: false :: false :: false :: false :: false :: false :: false :: false :: false :: false :: false :: false :: false :: false :: false :: false :: false :: false :: false :: false :: false :: false :: false :: false :: false :: false :: false :: false :: false :: false :: false :: false :: false :: false :: false :: false :: false :: false :: false :: false :: false :: false :: false :: false :: false :: false :: false :: false :: false :: false :: false :: false :: false :: false :: false :: false :: false :: false :: false :: false :: false :: false :: false :: false :: false :: false :: false :: false :: false :: false :: false :: false :: false :: false :: false :: false :: false :: false :: false :: false :: false :: false :: false :: false :: false :: false :: false :: false :: false :: false :: false :: false :: false :: false :: false :: false :: false :: false :: false :: false :: false :: false :: false :: false :: false :: false :: false :: false :: false :: false :: false :: false :: false :: false :: false :: false :: false :: false :: false :: false :: false :: false :: false :: false :: false :: false :: false :: false :: false :: false :: false :: false :: false :: false :: false :: false :: false :: false :: false :: false :: false :: false :: false :: false :: [])
                          · (try dsimp only [maskT]); try exact rfl
                          · rfl
                          exact ⟨-1, rfl, by rw [ordE_zero hc0 huq]; unfold byL; rw [hab]; rfl⟩
                      · skip
                        (try simp only [decide_eq_true_eq, decide_eq_false_iff_not, beq_iff_eq, beq_eq_false_iff_ne, Bool.not_eq_true', Bool.not_eq_false', bne_iff_ne, ne_eq, Decidable.not_not, bne_eq_false_iff_eq, List.length_map] at hc15)
                        have hab : Go.Op.bytesLess a b = false := by simpa using hc15
                        refine aw_skip ?_
                        refine then_normal ?_
                        refine aw_seq ?_
                        refine aw_region ?_
                        apply al_stepN
                        · exact op_move_tmp (by rfl)
                        · rfl
                        · (try dsimp only [zS, zN, zH, zT]); try exact rfl
                        apply al_stepN
                        · exact op_move_tmp (by rfl)
                        · rfl
                        · (try dsimp only [zS, zN, zH, zT]); try exact rfl
                        apply al_stepN
                        · exact op_gtS (by rfl) (by rfl)
                        · rfl
                        · (try dsimp only [zS, zN, zH, zT]); try exact rfl
                        apply al_end
                        · (try dsimp only [zS, zN, zH, zT]); try exact rfl
                        refine then_normal ?_
                        refine aw_cond rfl (fun hc17 => ?_) (fun hc17 => ?_)
                        · skip
                          (try simp only [decide_eq_true_eq, decide_eq_false_iff_not, beq_iff_eq, beq_eq_false_iff_ne, Bool.not_eq_true', Bool.not_eq_false', bne_iff_ne, ne_eq, Decidable.not_not, bne_eq_false_iff_eq, List.length_map] at hc17)
                          have hba : (!(Go.Op.bytesLess a b || a == b)) = true := by simpa using hc17
                          refine aw_region ?_
                          apply al_stepN
                          · exact op_assign_const (by rfl)
                          · rfl
                          · (try dsimp only [zS, zN, zH, zT]); try exact rfl
                          apply al_end
                          · (try dsimp only [zS, zN, zH, zT]); try exact rfl
                          apply cut_to (false :: false :: false :: false :: true :: true :: true :: true :: false :: false :: false :: false :: false :: true :: true :: true :: false :: false :: false :: false :: false :: false :: false :: false :: false :: false :: false :: false :: false :: false :: false :: false :: false :: false :: false :: false :: false :: false :: false :: false :: false :: false :: false :: false :: false :: false :: false :: false :: false :: false :: false :: false :: false :: false :: false :: false :: false :: false :: false :: false :: false :: false :: false :: false :: false :: false :: false :: false :: false :: false :: false :: false :: false :: false :: false :: false :: false :: false :: false :: false :: false :: false :: false :: false :: false :: false :: false :: false :: false :: false :: false :: false :: false :: false :: false :: false :: false :: false :: false :: false :: false :: false :: false :: false :: false :: false :: false :: false :: false :: false :: false :: false :: false :: false :: false :: false :: false :: false :: false :: false :: false :: false :: false :: false :: false :: false :: false :: false :: false :: false :: false :: false :: false :: false :: false :: false :: false :: false :: false :: false :: false :: false :: false :: false :: false :: false :: false :: false :: false :: false :: false :: false :: false :: false :: false :: false :: false :: false :: false :: false :: false :: false :: false :: false :: false :: false :: false :: false :: false :: false :: false :: false :: false :: false :: false :: false :: false :: false :: false :: false :: [])
                          · (try dsimp only [maskT]); try exact rfl
                          · rfl
                          exact ⟨1, rfl, by rw [ordE_zero hc0 huq]; unfold byL; rw [hba, hab]; rfl⟩
                        · skip
                          (try simp only [decide_eq_true_eq, decide_eq_false_iff_not, beq_iff_eq, beq_eq_false_iff_ne, Bool.not_eq_true', Bool.not_eq_false', bne_iff_ne, ne_eq, Decidable.not_not, bne_eq_false_iff_eq, List.length_map] at hc17)
                          have hba : (!(Go.Op.bytesLess a b || a == b)) = false := by rcases (show Go.Op.bytesLess a b = true ∨ a = b by simpa using hc17) with h | h <;> simp [h]
                          refine aw_skip ?_
                          apply cut_to (false :: false :: false :: false :: true :: true :: true :: true :: false :: false :: false :: false :: false :: true :: true :: true :: false :: false :: false :: false :: false :: false :: false :: false :: false :: false :: false :: false :: false :: false :: false :: false :: false :: false :: false :: false :: false :: false :: false :: false :: false :: false :: false :: false :: false :: false :: false :: false :: false :: false :: false :: false :: false :: false :: false :: false :: false :: false :: false :: false :: false :: false :: false :: false :: false :: false :: false :: false :: false :: false :: false :: false :: false :: false :: false :: false :: false :: false :: false :: false :: false :: false :: false :: false :: false :: false :: false :: false :: false :: false :: false :: false :: false :: false :: false :: false :: false :: false :: false :: false :: false :: false :: false :: false :: false :: false :: false :: false :: false :: false :: false :: false :: false :: false :: false :: false :: false :: false :: false :: false :: false :: false :: false :: false :: false :: false :: false :: false :: false :: false :: false :: false :: false :: false :: false :: false :: false :: false :: false :: false :: false :: false :: false :: false :: false :: false :: false :: false :: false :: false :: false :: false :: false :: false :: false :: false :: false :: false :: false :: false :: false :: false :: false :: false :: false :: false :: false :: false :: false :: false :: false :: false :: false :: false :: false :: false :: false :: false :: false :: false :: [])
                          · (try dsimp only [maskT]); try exact rfl
                          · rfl
                          exact ⟨_, rfl, by rw [ordE_zero hc0 huq, hc0]; unfold byL; rw [hba, hab]; rfl⟩
                    · skip
                      (try simp only [decide_eq_true_eq, decide_eq_false_iff_not, beq_iff_eq, beq_eq_false_iff_ne, Bool.not_eq_true', Bool.not_eq_false', bne_iff_ne, ne_eq, Decidable.not_not, bne_eq_false_iff_eq, List.length_map] at hc14)
                      have huq : x.uniq = true := by simpa using hc14
                      refine aw_skip ?_
                      apply cut_to (false :: false :: false :: false :: true :: true :: true :: true :: false :: false :: false :: false :: false :: true :: true :: true :: false :: false :: false :: false :: false :: false :: false :: false :: false :: false :: false :: false :: false :: false :: false :: false :: false :: false :: false :: false :: false :: false :: false :: false :: false :: false :: false :: false :: false :: false :: false :: false :: false :: false :: false :: false :: false :: false :: false :: false :: false :: false :: false :: false :: false :: false :: false :: false :: false :: false :: false :: false :: false :: false :: false :: false :: false :: false :: false :: false :: false :: false :: false :: false :: false :: false :: false :: false :: false :: false :: false :: false :: false :: false :: false :: false :: false :: false :: false :: false :: false :: false :: false :: false :: false :: false :: false :: false :: false :: false :: false :: false :: false :: false :: false :: false :: false :: false :: false :: false :: false :: false :: false :: false :: false :: false :: false :: false :: false :: false :: false :: false :: false :: false :: false :: false :: false :: false :: false :: false :: false :: false :: false :: false :: false :: false :: false :: false :: false :: false :: false :: false :: false :: false :: false :: false :: false :: false :: false :: false :: false :: false :: false :: false :: false :: false :: false :: false :: false :: false :: false :: false :: false :: false :: false :: false :: false :: false :: false :: false :: false :: false :: false :: false :: [])
                      · (try dsimp only [maskT]); try exact rfl
                      · rfl
                      exact ⟨_, rfl, (ordE_uq huq).symm⟩
                  · skip
                    (try simp only [decide_eq_true_eq, decide_eq_false_iff_not, beq_iff_eq, beq_eq_false_iff_ne, Bool.not_eq_true', Bool.not_eq_false', bne_iff_ne, ne_eq, Decidable.not_not, bne_eq_false_iff_eq, List.length_map] at hg13)
                    have hc0 : ¬ cmpV (lawR u) (lawR v) = 0 := hg13
                    apply al_normT
                    · (try dsimp only [zS, zN, zH, zT]); try exact rfl
                    refine al_unwanted rfl rfl rfl rfl ?_
                    apply al_normT
                    · (try dsimp only [zS, zN, zH, zT]); try exact rfl
                    refine al_unwanted rfl rfl rfl rfl ?_
                    apply al_normT
                    · (try dsimp only [zS, zN, zH, zT]); try exact rfl
                    refine al_unwanted rfl rfl rfl rfl ?_
                    apply al_normT
                    · (try dsimp only [zS, zN, zH, zT]); try exact rfl
                    apply al_stepN
                    · exact op_pick_ff (by rfl) (val_const (by rfl))
                    · rfl
                    · (try dsimp only [zS, zN, zH, zT]); try exact rfl
                    apply al_end
                    · (try dsimp only [zS, zN, zH, zT]); try exact rfl
                    refine then_normal ?_
                    refine aw_cond rfl (fun h => by cases h) (fun _ => ?_)
                    refine aw_skip ?_
                    apply cut_to (false :: false :: false :: false :: true :: true :: true :: true :: false :: false :: false :: false :: false :: true :: true :: true :: false :: false :: false :: false :: false :: false :: false :: false :: false :: false :: false :: false :: false :: false :: false :: false :: false :: false :: false :: false :: false :: false :: false :: false :: false :: false :: false :: false :: false :: false :: false :: false :: false :: false :: false :: false :: false :: false :: false :: false :: false :: false :: false :: false :: false :: false :: false :: false :: false :: false :: false :: false :: false :: false :: false :: false :: false :: false :: false :: false :: false :: false :: false :: false :: false :: false :: false :: false :: false :: false :: false :: false :: false :: false :: false :: false :: false :: false :: false :: false :: false :: false :: false :: false :: false :: false :: false :: false :: false :: false :: false :: false :: false :: false :: false :: false :: false :: false :: false :: false :: false :: false :: false :: false :: false :: false :: false :: false :: false :: false :: false :: false :: false :: false :: false :: false :: false :: false :: false :: false :: false :: false :: false :: false :: false :: false :: false :: false :: false :: false :: false :: false :: false :: false :: false :: false :: false :: false :: false :: false :: false :: false :: false :: false :: false :: false :: false :: false :: false :: false :: false :: false :: false :: false :: false :: false :: false :: false :: false :: false :: false :: false :: false :: false :: [])
                    · (try dsimp only [maskT]); try exact rfl
                    · rfl
                    exact ⟨_, rfl, (ordE_ne hc0).symm⟩
                rintro T H ⟨o, rfl, ho⟩
                rw [← hby] at ho
                have hlt := byL_less (entryL cn x.name x.uniq (lawR u) a) (entryL cn x.name x.uniq (lawR v) b)
                have hqe := byL_eq (entryL cn x.name x.uniq (lawR u) a) (entryL cn x.name x.uniq (lawR v) b)
                rw [← ho] at hlt hqe
                refine aw_seq ?_
                refine aw_seq ?_
                refine aw_region ?_
                apply al_stepN
                · exact op_move_tmp (by rfl)
                · rfl
                · (try dsimp only [zS, zN, zH, zT]); try exact rfl
                apply al_stepN
                · exact op_move_tmp (by rfl)
                · rfl
                · (try dsimp only [zS, zN, zH, zT]); try exact rfl
                apply al_stepN
                · exact op_ltS (by rfl) (by rfl)
                · rfl
                · (try dsimp only [zS, zN, zH, zT]); try exact rfl
                apply al_stepN
                · exact op_move_tmp (by rfl)
                · rfl
                · (try dsimp only [zS, zN, zH, zT]); try exact rfl
                apply al_stepN
                · exact op_ltI (by rfl) (by rfl)
                · rfl
                · (try dsimp only [zS, zN, zH, zT]); try exact rfl
                apply al_stepN
                · exact op_neB Try.underlying4 (by rfl) (by rfl)
                · rfl
                · (try dsimp only [zS, zN, zH, zT]); try exact rfl
                apply al_stepN
                · exact op_move_tmp (by rfl)
                · rfl
                · (try dsimp only [zS, zN, zH, zT]); try exact rfl
                refine al_split 86 rfl (fun hg19 => ?_) (fun hg19 => ?_)
                · skip
                  (try simp only [decide_eq_true_eq, decide_eq_false_iff_not, beq_iff_eq, beq_eq_false_iff_ne, Bool.not_eq_true', Bool.not_eq_false', bne_iff_ne, ne_eq, Decidable.not_not, bne_eq_false_iff_eq, List.length_map] at hg19)
                  apply al_normT
                  · (try dsimp only [zS, zN, zH, zT]); try exact rfl
                  exact absurd hlt hg19
                · skip
                  (try simp only [decide_eq_true_eq, decide_eq_false_iff_not, beq_iff_eq, beq_eq_false_iff_ne, Bool.not_eq_true', Bool.not_eq_false', bne_iff_ne, ne_eq, Decidable.not_not, bne_eq_false_iff_eq, List.length_map] at hg19)
                  apply al_normT
                  · (try dsimp only [zS, zN, zH, zT]); try exact rfl
                  apply al_wantedN
                  · rfl
                  · rfl
                  · rfl
                  · exact op_move_tmp (by rfl)
                  · (try dsimp only [zS, zN, zH, zT]); try exact rfl
                  apply al_wantedN
                  · rfl
                  · rfl
                  · rfl
                  · exact op_move_tmp (by rfl)
                  · (try dsimp only [zS, zN, zH, zT]); try exact rfl
                  apply al_wantedN
                  · rfl
                  · rfl
                  · rfl
                  · exact op_eqS (by rfl) (by rfl)
                  · (try dsimp only [zS, zN, zH, zT]); try exact rfl
                  apply al_wantedN
                  · rfl
                  · rfl
                  · rfl
                  · exact op_move_tmp (by rfl)
                  · (try dsimp only [zS, zN, zH, zT]); try exact rfl
                  apply al_wantedN
                  · rfl
                  · rfl
                  · rfl
                  · exact op_eqI (by rfl) (by rfl)
                  · (try dsimp only [zS, zN, zH, zT]); try exact rfl
                  apply al_wantedN
                  · rfl
                  · rfl
                  · rfl
                  · exact op_neB Try.underlying4 (by rfl) (by rfl)
                  · (try dsimp only [zS, zN, zH, zT]); try exact rfl
                  apply al_stepN
                  · exact op_pick_ff (by rfl) (val_tmp (by rfl))
                  · rfl
                  · (try dsimp only [zS, zN, zH, zT]); try exact rfl
                  apply al_end
                  · (try dsimp only [zS, zN, zH, zT]); try exact rfl
                  refine then_normal ?_
                  refine aw_cond rfl (fun hc20 => ?_) (fun hc20 => ?_)
                  · skip
                    (try simp only [decide_eq_true_eq, decide_eq_false_iff_not, beq_iff_eq, beq_eq_false_iff_ne, Bool.not_eq_true', Bool.not_eq_false', bne_iff_ne, ne_eq, Decidable.not_not, bne_eq_false_iff_eq, List.length_map] at hc20)
                    exact absurd (show ((entryL cn x.name x.uniq (lawR u) a) == (entryL cn x.name x.uniq (lawR v) b)) = (o == 0) by rw [Bool.eq_iff_iff]; simp only [beq_iff_eq]; rw [hqe]) hc20
                  · skip
                    (try simp only [decide_eq_true_eq, decide_eq_false_iff_not, beq_iff_eq, beq_eq_false_iff_ne, Bool.not_eq_true', Bool.not_eq_false', bne_iff_ne, ne_eq, Decidable.not_not, bne_eq_false_iff_eq, List.length_map] at hc20)
                    refine aw_skip ?_
                    refine then_normal ?_
                    refine aw_seq ?_
                    refine aw_region ?_
                    apply al_stepN
                    · exact op_assign_func
                    · rfl
                    · (try dsimp only [zS, zN, zH, zT]); try exact rfl
                    apply al_end
                    · (try dsimp only [zS, zN, zH, zT]); try exact rfl
                    refine then_normal ?_
                    refine aw_seq ?_
                    refine aw_region ?_
                    apply al_stepN
                    · exact op_load_elts (ds := [S cn, .lst 3 (ci.map ixD)]) Try.underlying25 (by rfl) Sz25 (by rfl) (Nat.le_of_ble_eq_true rfl) (by rfl)
                    · rfl
                    · (try dsimp only [zS, zN, zH, zT]); try exact rfl
                    apply al_stepN
                    · exact op_move_tmp (by rfl)
                    · rfl
                    · (try dsimp only [zS, zN, zH, zT]); try exact rfl
                    apply al_stepN
                    · exact op_callF Try.func25 (by rfl) (by rfl) (.tmp (by rfl) (.tmp (by rfl) .nil)) (cdoc_ok _ cn _ a (by omega) (by omega))
                    · rfl
                    · (try dsimp only [zS, zN, zH, zT]); try exact rfl
                    apply al_stepN
                    · exact op_callF Try.func30 (by rfl) (by rfl) (.tmp (by rfl) .nil) (parts_key_ok _ [[100], cn, a] (by have := keyL3_most [100] cn a; simp at this; omega))
                    · rfl
                    · (try dsimp only [zS, zN, zH, zT]); try exact rfl
                    apply al_stepN
                    · exact op_move_tmp (by rfl)
                    · rfl
                    · (try dsimp only [zS, zN, zH, zT]); try exact rfl
                    apply al_stepN
                    · exact op_extract (by rfl) (by rfl)
                    · rfl
                    · (try dsimp only [zS, zN, zH, zT]); try exact rfl
                    apply al_stepN
                    · exact op_extract (by rfl) (by rfl)
                    · rfl
                    · (try dsimp only [zS, zN, zH, zT]); try exact rfl
                    apply al_stepN
                    · exact op_assign_tmp (by rfl)
                    · rfl
                    · (try dsimp only [zS, zN, zH, zT]); try exact rfl
                    apply al_stepN
                    · exact op_assign_tmp (by rfl)
                    · rfl
                    · (try dsimp only [zS, zN, zH, zT]); try exact rfl
                    apply al_end
                    · (try dsimp only [zS, zN, zH, zT]); try exact rfl
                    refine then_normal ?_
                    refine aw_seq ?_
                    refine aw_draw [0, 0, 0, 0, 0, 0, 0, 0, 0, 0, 0, 0, 0, 0, 0, 0, 0, 0, 0, 0, 0, 0, 0, 0, 0, 0, 0, 0, 0, 0, 0, 0, 0, 0, 0, 0, 0, 0, 0, 0, 0, 0, 0, 0, 0, 0, 0, 0, 0, 0, 0, 0, 0, 0, 0, 0, 0, 0, 0, 0, 0, 0, 0, 0, 0, 0, 0, 0, 0, 0, 0, 0, 0, 0, 0, 0, 0, 0, 0, 0] mixed (by kernel_rfl) ?_
                    apply drun0
                    · intro H; exact op_move_tmp (by rfl)
                    · rfl
                    apply drun_normT
                    · (try dsimp only [zS, zN, zH, zT]); try exact rfl
                    apply drun0
                    · intro H; exact op_move_tmp (by rfl)
                    · rfl
                    apply drun_normT
                    · (try dsimp only [zS, zN, zH, zT]); try exact rfl
                    apply drun0
                    · intro H; exact op_load_elts (ds := [S cn, .lst 3 (ci.map ixD)]) Try.underlying25 (by rfl) Sz25 (by rfl) (Nat.le_of_ble_eq_true rfl) (by rfl)
                    · rfl
                    apply drun_normT
                    · (try dsimp only [zS, zN, zH, zT]); try exact rfl
                    apply drun0
                    · intro H; exact op_load_elts (ds := ixC x) Try.underlying32 (by rfl) Sz32 (by rfl) (Nat.le_of_ble_eq_true rfl) (by rfl)
                    · rfl
                    apply drun_normT
                    · (try dsimp only [zS, zN, zH, zT]); try exact rfl
                    apply drun0
                    · intro H; exact op_callF Try.func27 (by rfl) (by rfl) (.tmp (by rfl) (.tmp (by rfl) .nil)) (centries_ok _ cn _ x.name _ _ (by omega) (by omega))
                    · rfl
                    apply drun_normT
                    · (try dsimp only [zS, zN, zH, zT]); try exact rfl
                    apply drun0
                    · intro H; exact op_callV (by rfl) Try.func29 (by rfl) (by rfl) (.tmp (by rfl) (.tmp (by rfl) .nil)) (begK_ok _ _ _)
                    · rfl
                    apply drun_normT
                    · (try dsimp only [zS, zN, zH, zT]); try exact rfl
                    apply drun0
                    · intro H; exact op_move_tmp (by rfl)
                    · rfl
                    apply drun_normT
                    · (try dsimp only [zS, zN, zH, zT]); try exact rfl
                    refine drun_split 107 rfl (fun hg21 => ?_) (fun hg21 => ?_)
                    · skip
                      (try simp only [decide_eq_true_eq, decide_eq_false_iff_not, beq_iff_eq, beq_eq_false_iff_ne, Bool.not_eq_true', Bool.not_eq_false', bne_iff_ne, ne_eq, Decidable.not_not, bne_eq_false_iff_eq, List.length_map] at hg21)
                      apply drun_normT
                      · (try dsimp only [zS, zN, zH, zT]); try exact rfl
                      apply drun0w
                      · rfl
                      · rfl
                      · rfl
                      · intro H; exact op_load_elts (ds := [S cn, .lst 3 (ci.map ixD)]) Try.underlying25 (by rfl) Sz25 (by rfl) (Nat.le_of_ble_eq_true rfl) (by rfl)
                      apply drun_normT
                      · (try dsimp only [zS, zN, zH, zT]); try exact rfl
                      apply drun0w
                      · rfl
                      · rfl
                      · rfl
                      · intro H; exact op_load_elts (ds := ixC x) Try.underlying32 (by rfl) Sz32 (by rfl) (Nat.le_of_ble_eq_true rfl) (by rfl)
                      apply drun_normT
                      · (try dsimp only [zS, zN, zH, zT]); try exact rfl
                      apply drun0w
                      · rfl
                      · rfl
                      · rfl
                      · intro H; exact op_callF Try.func27 (by rfl) (by rfl) (.tmp (by rfl) (.tmp (by rfl) .nil)) (centries_ok _ cn _ x.name _ _ (by omega) (by omega))
                      apply drun_normT
                      · (try dsimp only [zS, zN, zH, zT]); try exact rfl
                      apply drun0w
                      · rfl
                      · rfl
                      · rfl
                      · intro H; first | exact op_fieldAddr_ptr Try.underlying25 rfl Sz9 (by rfl) (by rfl) | exact op_fieldAddr_elt Try.underlying25 rfl Sz9 (by rfl) (by rfl) (by rfl)
                      apply drun_normT
                      · (try dsimp only [zS, zN, zH, zT]); try exact rfl
                      apply drun0w
                      · rfl
                      · rfl
                      · rfl
                      · intro H; first | exact op_load_elt Try.underlying9 (by rfl) (by rfl) (by rfl) | exact op_load_ptr Try.underlying9 (by rfl) (by rfl) (by rfl) (by rfl)
                      apply drun_normT
                      · (try dsimp only [zS, zN, zH, zT]); try exact rfl
                      apply drun0w
                      · rfl
                      · rfl
                      · rfl
                      · intro H; first | exact op_fieldAddr_ptr Try.underlying32 rfl Sz9 (by rfl) (by rfl) | exact op_fieldAddr_elt Try.underlying32 rfl Sz9 (by rfl) (by rfl) (by rfl)
                      apply drun_normT
                      · (try dsimp only [zS, zN, zH, zT]); try exact rfl
                      apply drun0w
                      · rfl
                      · rfl
                      · rfl
                      · intro H; first | exact op_load_elt Try.underlying9 (by rfl) (by rfl) (by rfl) | exact op_load_ptr Try.underlying9 (by rfl) (by rfl) (by rfl) (by rfl)
                      apply drun_normT
                      · (try dsimp only [zS, zN, zH, zT]); try exact rfl
                      apply drun0w
                      · rfl
                      · rfl
                      · rfl
                      · intro H; exact op_lit Try.underlying46 ZS9 (.cons (by rfl) (.cons (by rfl) (.cons (by rfl) (.nil _)))) (by rfl) (by simp [BY, S, I, TF, DV.cells]) (by simp [flat, BY, S, I, TF, DV.cells, DV.one]) (by decide)
                      apply drun_normT
                      · (try dsimp only [zS, zN, zH, zT]); try exact rfl
                      apply drun0w
                      · rfl
                      · rfl
                      · rfl
                      · intro H; exact op_callF Try.func31 (by rfl) (by rfl) (.tmp (by rfl) .nil) (key_ok _ _ [[105], cn, x.name] (LL.own _ _ _) (by simp; omega))
                      apply drun_normT
                      · (try dsimp only [zS, zN, zH, zT]); try exact rfl
                      apply drun0w
                      · rfl
                      · rfl
                      · rfl
                      · intro H; exact op_eqS (by rfl) (by rfl)
                      apply drun_normT
                      · (try dsimp only [zS, zN, zH, zT]); try exact rfl
                      apply drun0
                      · intro H; exact op_pick_tt (by rfl) (val_tmp (by rfl))
                      · rfl
                      apply drun_normT
                      · (try dsimp only [zS, zN, zH, zT]); try exact rfl
                      apply drun0
                      · intro H; exact op_move_tmp (by rfl)
                      · rfl
                      apply drun_normT
                      · (try dsimp only [zS, zN, zH, zT]); try exact rfl
                      refine drun_split 119 rfl (fun hg22 => ?_) (fun hg22 => ?_)
                      · skip
                        (try simp only [decide_eq_true_eq, decide_eq_false_iff_not, beq_iff_eq, beq_eq_false_iff_ne, Bool.not_eq_true', Bool.not_eq_false', bne_iff_ne, ne_eq, Decidable.not_not, bne_eq_false_iff_eq, List.length_map] at hg22)
                        apply drun_normT
                        · (try dsimp only [zS, zN, zH, zT]); try exact rfl
                        apply drun0w
                        · rfl
                        · rfl
                        · rfl
                        · intro H; exact op_move_tmp (by rfl)
                        apply drun_normT
                        · (try dsimp only [zS, zN, zH, zT]); try exact rfl
                        apply drun0w
                        · rfl
                        · rfl
                        · rfl
                        · intro H; exact op_eqI (by rfl) (by rfl)
                        apply drun_normT
                        · (try dsimp only [zS, zN, zH, zT]); try exact rfl
                        apply drun0
                        · intro H; exact op_pick_tt (by rfl) (val_tmp (by rfl))
                        · rfl
                        apply drun_normT
                        · (try dsimp only [zS, zN, zH, zT]); try exact rfl
                        apply drun0
                        · intro H; exact op_move_tmp (by rfl)
                        · rfl
                        apply drun_normT
                        · (try dsimp only [zS, zN, zH, zT]); try exact rfl
                        refine drun_split 123 rfl (fun hg23 => ?_) (fun hg23 => ?_)
                        · skip
                          (try simp only [decide_eq_true_eq, decide_eq_false_iff_not, beq_iff_eq, beq_eq_false_iff_ne, Bool.not_eq_true', Bool.not_eq_false', bne_iff_ne, ne_eq, Decidable.not_not, bne_eq_false_iff_eq, List.length_map] at hg23)
                          apply drun_normT
                          · (try dsimp only [zS, zN, zH, zT]); try exact rfl
                          apply drun0w
                          · rfl
                          · rfl
                          · rfl
                          · intro H; exact op_move_tmp (by rfl)
                          apply drun_normT
                          · (try dsimp only [zS, zN, zH, zT]); try exact rfl
                          apply drun0w
                          · rfl
                          · rfl
                          · rfl
                          · intro H; exact op_lenL Try.underlying46 (by first | exact LL.d _ _ | exact LL.own _ _ _ | exact LL.nil _ | assumption)
                          apply drun_normT
                          · (try dsimp only [zS, zN, zH, zT]); try exact rfl
                          apply drun0w
                          · rfl
                          · rfl
                          · rfl
                          · intro H; exact op_eqI (by rfl) (by rfl)
                          apply drun_normT
                          · (try dsimp only [zS, zN, zH, zT]); try exact rfl
                          apply drun0
                          · intro H; exact op_pick_tt (by rfl) (val_tmp (by rfl))
                          · rfl
                          apply drun_normT
                          · (try dsimp only [zS, zN, zH, zT]); try exact rfl
                          apply drun0
                          · intro H; exact op_move_tmp (by rfl)
                          · rfl
                          apply drun_normT
                          · (try dsimp only [zS, zN, zH, zT]); try exact rfl
                          refine drun_split 128 rfl (fun hg24 => ?_) (fun hg24 => ?_)
                          · skip
                            (try simp only [decide_eq_true_eq, decide_eq_false_iff_not, beq_iff_eq, beq_eq_false_iff_ne, Bool.not_eq_true', Bool.not_eq_false', bne_iff_ne, ne_eq, Decidable.not_not, bne_eq_false_iff_eq, List.length_map] at hg24)
                            apply drun_normT
                            · (try dsimp only [zS, zN, zH, zT]); try exact rfl
                            apply drun0w
                            · rfl
                            · rfl
                            · rfl
                            · intro H; exact op_move_tmp (by rfl)
                            apply drun_normT
                            · (try dsimp only [zS, zN, zH, zT]); try exact rfl
                            apply drun0w
                            · rfl
                            · rfl
                            · rfl
                            · intro H; exact op_indexAddr Try.underlying46 Sz9 (LL.d _ _) (by rfl) (by decide) (show ([[100], cn, a].map S)[(0 : Int).toNat]? = some (S [100]) from rfl) (by rfl)
                            apply drun_normT
                            · (try dsimp only [zS, zN, zH, zT]); try exact rfl
                            apply drun0w
                            · rfl
                            · rfl
                            · rfl
                            · intro H; first | exact op_load_elt Try.underlying9 (by rfl) (by rfl) (by rfl) | exact op_load_ptr Try.underlying9 (by rfl) (by rfl) (by rfl) (by rfl)
                            apply drun_normT
                            · (try dsimp only [zS, zN, zH, zT]); try exact rfl
                            apply drun0w
                            · rfl
                            · rfl
                            · rfl
                            · intro H; exact op_eqS (by rfl) (by rfl)
                            apply drun_normT
                            · (try dsimp only [zS, zN, zH, zT]); try exact rfl
                            apply drun0
                            · intro H; exact op_pick_tt (by rfl) (val_tmp (by rfl))
                            · rfl
                            apply drun_normT
                            · (try dsimp only [zS, zN, zH, zT]); try exact rfl
                            apply drun0
                            · intro H; exact op_move_tmp (by rfl)
                            · rfl
                            apply drun_normT
                            · (try dsimp only [zS, zN, zH, zT]); try exact rfl
                            refine drun_split 134 rfl (fun hg25 => ?_) (fun hg25 => ?_)
                            · skip
                              (try simp only [decide_eq_true_eq, decide_eq_false_iff_not, beq_iff_eq, beq_eq_false_iff_ne, Bool.not_eq_true', Bool.not_eq_false', bne_iff_ne, ne_eq, Decidable.not_not, bne_eq_false_iff_eq, List.length_map] at hg25)
                              apply drun_normT
                              · (try dsimp only [zS, zN, zH, zT]); try exact rfl
                              apply drun0w
                              · rfl
                              · rfl
                              · rfl
                              · intro H; exact op_move_tmp (by rfl)
                              apply drun_normT
                              · (try dsimp only [zS, zN, zH, zT]); try exact rfl
                              apply drun0w
                              · rfl
                              · rfl
                              · rfl
                              · intro H; exact op_indexAddr Try.underlying46 Sz9 (LL.d _ _) (by rfl) (by decide) (show ([[100], cn, a].map S)[(1 : Int).toNat]? = some (S cn) from rfl) (by rfl)
                              apply drun_normT
                              · (try dsimp only [zS, zN, zH, zT]); try exact rfl
                              apply drun0w
                              · rfl
                              · rfl
                              · rfl
                              · intro H; first | exact op_load_elt Try.underlying9 (by rfl) (by rfl) (by rfl) | exact op_load_ptr Try.underlying9 (by rfl) (by rfl) (by rfl) (by rfl)
                              apply drun_normT
                              · (try dsimp only [zS, zN, zH, zT]); try exact rfl
                              apply drun0w
                              · rfl
                              · rfl
                              · rfl
                              · intro H; first | exact op_fieldAddr_ptr Try.underlying25 rfl Sz9 (by rfl) (by rfl) | exact op_fieldAddr_elt Try.underlying25 rfl Sz9 (by rfl) (by rfl) (by rfl)
                              apply drun_normT
                              · (try dsimp only [zS, zN, zH, zT]); try exact rfl
                              apply drun0w
                              · rfl
                              · rfl
                              · rfl
                              · intro H; first | exact op_load_elt Try.underlying9 (by rfl) (by rfl) (by rfl) | exact op_load_ptr Try.underlying9 (by rfl) (by rfl) (by rfl) (by rfl)
                              apply drun_normT
                              · (try dsimp only [zS, zN, zH, zT]); try exact rfl
                              apply drun0w
                              · rfl
                              · rfl
                              · rfl
                              · intro H; exact op_eqS (by rfl) (by rfl)
                              apply drun_normT
                              · (try dsimp only [zS, zN, zH, zT]); try exact rfl
                              apply drun0
                              · intro H; exact op_pick_tt (by rfl) (val_tmp (by rfl))
                              · rfl
                              apply drun_normT
                              · (try dsimp only [zS, zN, zH, zT]); try exact rfl
                              apply drun0
                              · intro H; exact op_move_tmp (by rfl)
                              · rfl
                              apply drun_normT
                              · (try dsimp only [zS, zN, zH, zT]); try exact rfl
                              refine drun_split 142 rfl (fun hg26 => ?_) (fun hg26 => ?_)
                              · skip
                                (try simp only [decide_eq_true_eq, decide_eq_false_iff_not, beq_iff_eq, beq_eq_false_iff_ne, Bool.not_eq_true', Bool.not_eq_false', bne_iff_ne, ne_eq, Decidable.not_not, bne_eq_false_iff_eq, List.length_map] at hg26)
                                apply drun_normT
                                · (try dsimp only [zS, zN, zH, zT]); try exact rfl
                                apply drun0w
                                · rfl
                                · rfl
                                · rfl
                                · intro H; exact op_move_tmp (by rfl)
                                apply drun_normT
                                · (try dsimp only [zS, zN, zH, zT]); try exact rfl
                                apply drun0w
                                · rfl
                                · rfl
                                · rfl
                                · intro H; exact op_indexAddr Try.underlying46 Sz9 (LL.d _ _) (by rfl) (by decide) (show ([[100], cn, a].map S)[(2 : Int).toNat]? = some (S a) from rfl) (by rfl)
                                apply drun_normT
                                · (try dsimp only [zS, zN, zH, zT]); try exact rfl
                                apply drun0w
                                · rfl
                                · rfl
                                · rfl
                                · intro H; first | exact op_load_elt Try.underlying9 (by rfl) (by rfl) (by rfl) | exact op_load_ptr Try.underlying9 (by rfl) (by rfl) (by rfl) (by rfl)
                                apply drun_normT
                                · (try dsimp only [zS, zN, zH, zT]); try exact rfl
                                apply drun0w
                                · rfl
                                · rfl
                                · rfl
                                · intro H; exact op_move_tmp (by rfl)
                                apply drun_normT
                                · (try dsimp only [zS, zN, zH, zT]); try exact rfl
                                apply drun0w
                                · rfl
                                · rfl
                                · rfl
                                · intro H; exact op_eqS (by rfl) (by rfl)
                                apply drun_normT
                                · (try dsimp only [zS, zN, zH, zT]); try exact rfl
                                apply drun0
                                · intro H; exact op_pick_tt (by rfl) (val_tmp (by rfl))
                                · rfl
                                apply drun_normT
                                · (try dsimp only [zS, zN, zH, zT]); try exact rfl
                                apply drun0
                                · intro H; exact op_move_tmp (by rfl)
                                · rfl
                                apply drun_normT
                                · (try dsimp only [zS, zN, zH, zT]); try exact rfl
                                refine drun_split 149 rfl (fun hg27 => ?_) (fun hg27 => ?_)
                                · skip
                                  (try simp only [decide_eq_true_eq, decide_eq_false_iff_not, beq_iff_eq, beq_eq_false_iff_ne, Bool.not_eq_true', Bool.not_eq_false', bne_iff_ne, ne_eq, Decidable.not_not, bne_eq_false_iff_eq, List.length_map] at hg27)
                                  apply drun_normT
                                  · (try dsimp only [zS, zN, zH, zT]); try exact rfl
                                  apply drun0w
                                  · rfl
                                  · rfl
                                  · rfl
                                  · intro H; exact op_move_tmp (by rfl)
                                  apply drun_normT
                                  · (try dsimp only [zS, zN, zH, zT]); try exact rfl
                                  apply drun0w
                                  · rfl
                                  · rfl
                                  · rfl
                                  · intro H; exact op_load_elts (ds := [S cn, .lst 3 (ci.map ixD)]) Try.underlying25 (by rfl) Sz25 (by rfl) (Nat.le_of_ble_eq_true rfl) (by rfl)
                                  apply drun_normT
                                  · (try dsimp only [zS, zN, zH, zT]); try exact rfl
                                  apply drun0w
                                  · rfl
                                  · rfl
                                  · rfl
                                  · intro H; exact op_move_tmp (by rfl)
                                  apply drun_normT
                                  · (try dsimp only [zS, zN, zH, zT]); try exact rfl
                                  apply drun0w
                                  · rfl
                                  · rfl
                                  · rfl
                                  · intro H; exact op_callF Try.func25 (by rfl) (by rfl) (.tmp (by rfl) (.tmp (by rfl) .nil)) (cdoc_ok _ cn _ a (by omega) (by omega))
                                  apply drun_normT
                                  · (try dsimp only [zS, zN, zH, zT]); try exact rfl
                                  apply drun0w
                                  · rfl
                                  · rfl
                                  · rfl
                                  · intro H; exact op_load_elts (ds := [S cn, .lst 3 (ci.map ixD)]) Try.underlying25 (by rfl) Sz25 (by rfl) (Nat.le_of_ble_eq_true rfl) (by rfl)
                                  apply drun_normT
                                  · (try dsimp only [zS, zN, zH, zT]); try exact rfl
                                  apply drun0w
                                  · rfl
                                  · rfl
                                  · rfl
                                  · intro H; exact op_callF Try.func26 (by rfl) (by rfl) (.tmp (by rfl) .nil) (cdocs_ok _ cn _ (by omega))
                                  apply drun_normT
                                  · (try dsimp only [zS, zN, zH, zT]); try exact rfl
                                  apply drun0w
                                  · rfl
                                  · rfl
                                  · rfl
                                  · intro H; exact op_callV (by rfl) Try.func29 (by rfl) (by rfl) (.tmp (by rfl) (.tmp (by rfl) .nil)) (begK_ok _ _ _)
                                  apply drun_normT
                                  · (try dsimp only [zS, zN, zH, zT]); try exact rfl
                                  apply drun0
                                  · intro H; exact op_pick_tt (by rfl) (val_tmp (by rfl))
                                  · rfl
                                  apply drun_normT
                                  · (try dsimp only [zS, zN, zH, zT]); try exact rfl
                                  apply drun0
                                  · intro H; exact op_move_tmp (by rfl)
                                  · rfl
                                  apply drun_normT
                                  · (try dsimp only [zS, zN, zH, zT]); try exact rfl
                                  refine drun_split 158 rfl (fun hg28 => ?_) (fun hg28 => ?_)
                                  · skip
                                    (try simp only [decide_eq_true_eq, decide_eq_false_iff_not, beq_iff_eq, beq_eq_false_iff_ne, Bool.not_eq_true', Bool.not_eq_false', bne_iff_ne, ne_eq, Decidable.not_not, bne_eq_false_iff_eq, List.length_map] at hg28)
                                    apply drun_normT
                                    · (try dsimp only [zS, zN, zH, zT]); try exact rfl
                                    apply drun0w
                                    · rfl
                                    · rfl
                                    · rfl
                                    · intro H; exact op_load_elts (ds := [S cn, .lst 3 (ci.map ixD)]) Try.underlying25 (by rfl) Sz25 (by rfl) (Nat.le_of_ble_eq_true rfl) (by rfl)
                                    apply drun_normT
                                    · (try dsimp only [zS, zN, zH, zT]); try exact rfl
                                    apply drun0w
                                    · rfl
                                    · rfl
                                    · rfl
                                    · intro H; exact op_move_tmp (by rfl)
                                    apply drun_normT
                                    · (try dsimp only [zS, zN, zH, zT]); try exact rfl
                                    apply drun0w
                                    · rfl
                                    · rfl
                                    · rfl
                                    · intro H; exact op_callF Try.func25 (by rfl) (by rfl) (.tmp (by rfl) (.tmp (by rfl) .nil)) (cdoc_ok _ cn _ a (by omega) (by omega))
                                    apply drun_normT
                                    · (try dsimp only [zS, zN, zH, zT]); try exact rfl
                                    apply drun0w
                                    · rfl
                                    · rfl
                                    · rfl
                                    · intro H; exact op_load_elts (ds := [S cn, .lst 3 (ci.map ixD)]) Try.underlying25 (by rfl) Sz25 (by rfl) (Nat.le_of_ble_eq_true rfl) (by rfl)
                                    apply drun_normT
                                    · (try dsimp only [zS, zN, zH, zT]); try exact rfl
                                    apply drun0w
                                    · rfl
                                    · rfl
                                    · rfl
                                    · intro H; exact op_move_tmp (by rfl)
                                    apply drun_normT
                                    · (try dsimp only [zS, zN, zH, zT]); try exact rfl
                                    apply drun0w
                                    · rfl
                                    · rfl
                                    · rfl
                                    · intro H; exact op_callF Try.func25 (by rfl) (by rfl) (.tmp (by rfl) (.tmp (by rfl) .nil)) (cdoc_ok _ cn _ b (by omega) (by omega))
                                    apply drun_normT
                                    · (try dsimp only [zS, zN, zH, zT]); try exact rfl
                                    apply drun0w
                                    · rfl
                                    · rfl
                                    · rfl
                                    · intro H; exact op_eqS (by rfl) (by rfl)
                                    apply drun_normT
                                    · (try dsimp only [zS, zN, zH, zT]); try exact rfl
                                    apply drun0w
                                    · rfl
                                    · rfl
                                    · rfl
                                    · intro H; exact op_move_tmp (by rfl)
                                    apply drun_normT
                                    · (try dsimp only [zS, zN, zH, zT]); try exact rfl
                                    apply drun0w
                                    · rfl
                                    · rfl
                                    · rfl
                                    · intro H; exact op_move_tmp (by rfl)
                                    apply drun_normT
                                    · (try dsimp only [zS, zN, zH, zT]); try exact rfl
                                    apply drun0w
                                    · rfl
                                    · rfl
                                    · rfl
                                    · intro H; exact op_eqS (by rfl) (by rfl)
                                    apply drun_normT
                                    · (try dsimp only [zS, zN, zH, zT]); try exact rfl
                                    apply drun0w
                                    · rfl
                                    · rfl
                                    · rfl
                                    · intro H; exact op_eqB Try.underlying4 (by rfl) (by rfl)
                                    apply drun_normT
                                    · (try dsimp only [zS, zN, zH, zT]); try exact rfl
                                    apply drun0
                                    · intro H; exact op_pick_tt (by rfl) (val_tmp (by rfl))
                                    · rfl
                                    apply drun_normT
                                    · (try dsimp only [zS, zN, zH, zT]); try exact rfl
                                    apply drun0
                                    · intro H; exact op_move_tmp (by rfl)
                                    · rfl
                                    apply drun_normT
                                    · (try dsimp only [zS, zN, zH, zT]); try exact rfl
                                    refine drun_split 171 rfl (fun hg29 => ?_) (fun hg29 => ?_)
                                    · skip
                                      (try simp only [decide_eq_true_eq, decide_eq_false_iff_not, beq_iff_eq, beq_eq_false_iff_ne, Bool.not_eq_true', Bool.not_eq_false', bne_iff_ne, ne_eq, Decidable.not_not, bne_eq_false_iff_eq, List.length_map] at hg29)
                                      apply drun_normT
                                      · (try dsimp only [zS, zN, zH, zT]); try exact rfl
                                      apply drun0w
                                      · rfl
                                      · rfl
                                      · rfl
                                      · intro H; exact op_load_elts (ds := [S cn, .lst 3 (ci.map ixD)]) Try.underlying25 (by rfl) Sz25 (by rfl) (Nat.le_of_ble_eq_true rfl) (by rfl)
                                      apply drun_normT
                                      · (try dsimp only [zS, zN, zH, zT]); try exact rfl
                                      apply drun0w
                                      · rfl
                                      · rfl
                                      · rfl
                                      · intro H; exact op_callF Try.func24 (by rfl) (by rfl) (.tmp (by rfl) .nil) (ckey_ok _ cn _ (by omega))
                                      apply drun_normT
                                      · (try dsimp only [zS, zN, zH, zT]); try exact rfl
                                      apply drun0w
                                      · rfl
                                      · rfl
                                      · rfl
                                      · intro H; first | exact op_fieldAddr_ptr Try.underlying25 rfl Sz9 (by rfl) (by rfl) | exact op_fieldAddr_elt Try.underlying25 rfl Sz9 (by rfl) (by rfl) (by rfl)
                                      apply drun_normT
                                      · (try dsimp only [zS, zN, zH, zT]); try exact rfl
                                      apply drun0w
                                      · rfl
                                      · rfl
                                      · rfl
                                      · intro H; first | exact op_load_elt Try.underlying9 (by rfl) (by rfl) (by rfl) | exact op_load_ptr Try.underlying9 (by rfl) (by rfl) (by rfl) (by rfl)
                                      apply drun_normT
                                      · (try dsimp only [zS, zN, zH, zT]); try exact rfl
                                      apply drun0w
                                      · rfl
                                      · rfl
                                      · rfl
                                      · intro H; exact op_lit Try.underlying46 ZS9 (.cons (by rfl) (.cons (by rfl) (.nil _))) (by rfl) (by simp [BY, S, I, TF, DV.cells]) (by simp [flat, BY, S, I, TF, DV.cells, DV.one]) (by decide)
                                      apply drun_normT
                                      · (try dsimp only [zS, zN, zH, zT]); try exact rfl
                                      apply drun0w
                                      · rfl
                                      · rfl
                                      · rfl
                                      · intro H; exact op_callF Try.func31 (by rfl) (by rfl) (.tmp (by rfl) .nil) (key_ok _ _ [[99], cn] (LL.own _ _ _) (by simp; omega))
                                      apply drun_normT
                                      · (try dsimp only [zS, zN, zH, zT]); try exact rfl
                                      apply drun0w
                                      · rfl
                                      · rfl
                                      · rfl
                                      · intro H; exact op_eqS (by rfl) (by rfl)
                                      apply drun_normT
                                      · (try dsimp only [zS, zN, zH, zT]); try exact rfl
                                      apply drun0
                                      · intro H; exact op_pick_tt (by rfl) (val_tmp (by rfl))
                                      · rfl
                                      apply drun_normT
                                      · (try dsimp only [zS, zN, zH, zT]); try exact rfl
                                      apply drun0
                                      · intro H; exact op_assign_tmp (by rfl)
                                      · rfl
                                      apply drun_normT
                                      · (try dsimp only [zS, zN, zH, zT]); try exact rfl
                                      apply drun_end
                                      · (try dsimp only [zS, zN, zH, zT]); try exact rfl
                                      refine then_normal ?_
                                      refine aw_ret ?_
                                      refine retPost1 rfl rfl ?_
                                      first | exact rfl | (simp [TF]; done)
                                    · skip
                                      (try simp only [decide_eq_true_eq, decide_eq_false_iff_not, beq_iff_eq, beq_eq_false_iff_ne, Bool.not_eq_true', Bool.not_eq_false', bne_iff_ne, ne_eq, Decidable.not_not, bne_eq_false_iff_eq, List.length_map] at hg29)
                                      apply drun_normT
                                      · (try dsimp only [zS, zN, zH, zT]); try exact rfl
                                      exact absurd (show (keyL [[100], cn, a] == keyL [[100], cn, b]) = (a == b) by rw [Bool.eq_iff_iff]; simp only [beq_iff_eq]; rw [doc_same]) hg29
                                  · skip
                                    (try simp only [decide_eq_true_eq, decide_eq_false_iff_not, beq_iff_eq, beq_eq_false_iff_ne, Bool.not_eq_true', Bool.not_eq_false', bne_iff_ne, ne_eq, Decidable.not_not, bne_eq_false_iff_eq, List.length_map] at hg28)
                                    apply drun_normT
                                    · (try dsimp only [zS, zN, zH, zT]); try exact rfl
                                    rw [doc_begins] at hg28; cases hg28
                                · skip
                                  (try simp only [decide_eq_true_eq, decide_eq_false_iff_not, beq_iff_eq, beq_eq_false_iff_ne, Bool.not_eq_true', Bool.not_eq_false', bne_iff_ne, ne_eq, Decidable.not_not, bne_eq_false_iff_eq, List.length_map] at hg27)
                                  apply drun_normT
                                  · (try dsimp only [zS, zN, zH, zT]); try exact rfl
                                  all_goals (first | exact absurd rfl hg27 | simp at hg27)
                              · skip
                                (try simp only [decide_eq_true_eq, decide_eq_false_iff_not, beq_iff_eq, beq_eq_false_iff_ne, Bool.not_eq_true', Bool.not_eq_false', bne_iff_ne, ne_eq, Decidable.not_not, bne_eq_false_iff_eq, List.length_map] at hg26)
                                apply drun_normT
                                · (try dsimp only [zS, zN, zH, zT]); try exact rfl
                                all_goals (first | exact absurd rfl hg26 | simp at hg26)
                            · skip
                              (try simp only [decide_eq_true_eq, decide_eq_false_iff_not, beq_iff_eq, beq_eq_false_iff_ne, Bool.not_eq_true', Bool.not_eq_false', bne_iff_ne, ne_eq, Decidable.not_not, bne_eq_false_iff_eq, List.length_map] at hg25)
                              apply drun_normT
                              · (try dsimp only [zS, zN, zH, zT]); try exact rfl
                              all_goals (first | exact absurd rfl hg25 | simp at hg25)
                          · skip
                            (try simp only [decide_eq_true_eq, decide_eq_false_iff_not, beq_iff_eq, beq_eq_false_iff_ne, Bool.not_eq_true', Bool.not_eq_false', bne_iff_ne, ne_eq, Decidable.not_not, bne_eq_false_iff_eq, List.length_map] at hg24)
                            apply drun_normT
                            · (try dsimp only [zS, zN, zH, zT]); try exact rfl
                            all_goals (first | exact absurd rfl hg24 | simp at hg24)
                        · skip
                          (try simp only [decide_eq_true_eq, decide_eq_false_iff_not, beq_iff_eq, beq_eq_false_iff_ne, Bool.not_eq_true', Bool.not_eq_false', bne_iff_ne, ne_eq, Decidable.not_not, bne_eq_false_iff_eq, List.length_map] at hg23)
                          apply drun_normT
                          · (try dsimp only [zS, zN, zH, zT]); try exact rfl
                          all_goals (first | exact absurd rfl hg23 | simp at hg23)
                      · skip
                        (try simp only [decide_eq_true_eq, decide_eq_false_iff_not, beq_iff_eq, beq_eq_false_iff_ne, Bool.not_eq_true', Bool.not_eq_false', bne_iff_ne, ne_eq, Decidable.not_not, bne_eq_false_iff_eq, List.length_map] at hg22)
                        apply drun_normT
                        · (try dsimp only [zS, zN, zH, zT]); try exact rfl
                        all_goals (first | exact absurd rfl hg22 | simp at hg22)
                    · skip
                      (try simp only [decide_eq_true_eq, decide_eq_false_iff_not, beq_iff_eq, beq_eq_false_iff_ne, Bool.not_eq_true', Bool.not_eq_false', bne_iff_ne, ne_eq, Decidable.not_not, bne_eq_false_iff_eq, List.length_map] at hg21)
                      apply drun_normT
                      · (try dsimp only [zS, zN, zH, zT]); try exact rfl
                      rw [entry_begins] at hg21; cases hg21
end Go.Proofs.Ytadkehaagkjbhaa
