/- What the law OrdAfters comes to. -/
import Derived.Test.YtlphmahlchgafaaOrdW
import Derived.KernelRfl
namespace Go.Proofs.Ytlphmahlchgafaa
open Go.AV Go.AV.Ord
set_option linter.unusedVariables false
set_option linter.unusedSimpArgs false
theorem ordAfters_walk (Hs : HS) (p s : List UInt8) : ACalls Try.prog 5 [.d (S p), .d (S s)] Hs (fun av _ => av = .d (TF true)) := by
  refine acalls_of_aw Try.func5 rfl ?_
  refine aw_start (T' := ((.d (S p)) :: (.d (S s)) :: .un :: .un :: .un :: .un :: .un :: .un :: .un :: .un :: .un :: .un :: .un :: .un :: .un :: .un :: .un :: .un :: .un :: .un :: .un :: .un :: .un :: .un :: .un :: .un :: .un :: .un :: .un :: .un :: .un :: .un :: .un :: .un :: .un :: .un :: .un :: .un :: .un :: .un :: .un :: .un :: .un :: .un :: .un :: .un :: .un :: .un :: .un :: .un :: .un :: .un :: .un :: .un :: .un :: .un :: .un :: .un :: .un :: .un :: .un :: .un :: .un :: .un :: .un :: .un :: .un :: .un :: .un :: .un :: .un :: .un :: .un :: .un :: .un :: [])) rfl ?_
  refine aw_seq ?_
  refine aw_region ?_
  apply al_stepN
  · exact op_assign_const (by rfl)
  · rfl
  · (try dsimp only [putT, List.set_cons_zero, List.set_cons_succ]); try exact rfl
  apply al_end
  · (try dsimp only [putT, List.set_cons_zero, List.set_cons_succ]); try exact rfl
  refine then_normal ?_
  refine aw_seq ?_
  refine aw_seq ?_
  refine aw_region ?_
  apply al_stepN
  · exact op_callF Try.func11 (by rfl) (by rfl) .nil (head_ok _)
  · rfl
  · (try dsimp only [putT, List.set_cons_zero, List.set_cons_succ]); try exact rfl
  apply al_stepN
  · exact op_not (by rfl)
  · rfl
  · (try dsimp only [putT, List.set_cons_zero, List.set_cons_succ]); try exact rfl
  apply al_end
  · (try dsimp only [putT, List.set_cons_zero, List.set_cons_succ]); try exact rfl
  refine then_normal ?_
  refine aw_cond rfl (fun hc1 => ?_) (fun hc1 => ?_)
  · skip
    (try simp only [decide_eq_true_eq, decide_eq_false_iff_not, beq_iff_eq, beq_eq_false_iff_ne, Bool.not_eq_true', Bool.not_eq_false', bne_iff_ne, ne_eq, Decidable.not_not, bne_eq_false_iff_eq, List.length_map] at hc1)
    exact absurd hc1 (by decide)
  · skip
    (try simp only [decide_eq_true_eq, decide_eq_false_iff_not, beq_iff_eq, beq_eq_false_iff_ne, Bool.not_eq_true', Bool.not_eq_false', bne_iff_ne, ne_eq, Decidable.not_not, bne_eq_false_iff_eq, List.length_map] at hc1)
    refine aw_skip ?_
    refine then_normal ?_
    refine aw_seq ?_
    refine aw_seq ?_
    refine aw_region ?_
    apply al_stepN
    · exact op_move_tmp (by rfl)
    · rfl
    · (try dsimp only [putT, List.set_cons_zero, List.set_cons_succ]); try exact rfl
    apply al_stepN
    · exact op_lenS Try.underlying9 (by rfl)
    · rfl
    · (try dsimp only [putT, List.set_cons_zero, List.set_cons_succ]); try exact rfl
    apply al_stepN
    · exact op_gtI (by rfl) (by rfl)
    · rfl
    · (try dsimp only [putT, List.set_cons_zero, List.set_cons_succ]); try exact rfl
    apply al_stepN
    · exact op_move_tmp (by rfl)
    · rfl
    · (try dsimp only [putT, List.set_cons_zero, List.set_cons_succ]); try exact rfl
    refine al_split 14 rfl (fun hg2 => ?_) (fun hg2 => ?_)
    · skip
      (try simp only [decide_eq_true_eq, decide_eq_false_iff_not, beq_iff_eq, beq_eq_false_iff_ne, Bool.not_eq_true', Bool.not_eq_false', bne_iff_ne, ne_eq, Decidable.not_not, bne_eq_false_iff_eq, List.length_map] at hg2)
      apply al_normT
      · (try dsimp only [putT, List.set_cons_zero, List.set_cons_succ]); try exact rfl
      refine al_unwanted rfl rfl rfl rfl ?_
      apply al_normT
      · (try dsimp only [putT, List.set_cons_zero, List.set_cons_succ]); try exact rfl
      refine al_unwanted rfl rfl rfl rfl ?_
      apply al_normT
      · (try dsimp only [putT, List.set_cons_zero, List.set_cons_succ]); try exact rfl
      refine al_unwanted rfl rfl rfl rfl ?_
      apply al_normT
      · (try dsimp only [putT, List.set_cons_zero, List.set_cons_succ]); try exact rfl
      apply al_stepN
      · exact op_pick_tt (by rfl) (val_const (by rfl))
      · rfl
      · (try dsimp only [putT, List.set_cons_zero, List.set_cons_succ]); try exact rfl
      apply al_end
      · (try dsimp only [putT, List.set_cons_zero, List.set_cons_succ]); try exact rfl
      refine then_normal ?_
      refine aw_cond rfl (fun _ => ?_) (fun h => by cases h)
      refine aw_seq ?_
      refine aw_region ?_
      apply al_stepN
      · exact op_assign_const (by rfl)
      · rfl
      · (try dsimp only [putT, List.set_cons_zero, List.set_cons_succ]); try exact rfl
      apply al_end
      · (try dsimp only [putT, List.set_cons_zero, List.set_cons_succ]); try exact rfl
      refine then_normal ?_
      refine aw_ret ?_
      refine then_ret ?_
      refine retPost1 rfl rfl ?_
      exact rfl
    · skip
      (try simp only [decide_eq_true_eq, decide_eq_false_iff_not, beq_iff_eq, beq_eq_false_iff_ne, Bool.not_eq_true', Bool.not_eq_false', bne_iff_ne, ne_eq, Decidable.not_not, bne_eq_false_iff_eq, List.length_map] at hg2)
      apply al_normT
      · (try dsimp only [putT, List.set_cons_zero, List.set_cons_succ]); try exact rfl
      apply al_wantedN
      · rfl
      · rfl
      · rfl
      · exact op_move_tmp (by rfl)
      · (try dsimp only [putT, List.set_cons_zero, List.set_cons_succ]); try exact rfl
      apply al_wantedN
      · rfl
      · rfl
      · rfl
      · exact op_lenS Try.underlying9 (by rfl)
      · (try dsimp only [putT, List.set_cons_zero, List.set_cons_succ]); try exact rfl
      apply al_wantedN
      · rfl
      · rfl
      · rfl
      · exact op_gtI (by rfl) (by rfl)
      · (try dsimp only [putT, List.set_cons_zero, List.set_cons_succ]); try exact rfl
      apply al_stepN
      · exact op_pick_ff (by rfl) (val_tmp (by rfl))
      · rfl
      · (try dsimp only [putT, List.set_cons_zero, List.set_cons_succ]); try exact rfl
      apply al_end
      · (try dsimp only [putT, List.set_cons_zero, List.set_cons_succ]); try exact rfl
      refine then_normal ?_
      refine aw_cond rfl (fun hc4 => ?_) (fun hc4 => ?_)
      · skip
        (try simp only [decide_eq_true_eq, decide_eq_false_iff_not, beq_iff_eq, beq_eq_false_iff_ne, Bool.not_eq_true', Bool.not_eq_false', bne_iff_ne, ne_eq, Decidable.not_not, bne_eq_false_iff_eq, List.length_map] at hc4)
        refine aw_seq ?_
        refine aw_region ?_
        apply al_stepN
        · exact op_assign_const (by rfl)
        · rfl
        · (try dsimp only [putT, List.set_cons_zero, List.set_cons_succ]); try exact rfl
        apply al_end
        · (try dsimp only [putT, List.set_cons_zero, List.set_cons_succ]); try exact rfl
        refine then_normal ?_
        refine aw_ret ?_
        refine then_ret ?_
        refine retPost1 rfl rfl ?_
        exact rfl
      · skip
        (try simp only [decide_eq_true_eq, decide_eq_false_iff_not, beq_iff_eq, beq_eq_false_iff_ne, Bool.not_eq_true', Bool.not_eq_false', bne_iff_ne, ne_eq, Decidable.not_not, bne_eq_false_iff_eq, List.length_map] at hc4)
        refine aw_skip ?_
        refine then_normal ?_
        refine aw_seq ?_
        refine aw_region ?_
        apply al_stepN
        · exact op_move_tmp (by rfl)
        · rfl
        · (try dsimp only [putT, List.set_cons_zero, List.set_cons_succ]); try exact rfl
        apply al_stepN
        · exact op_callF Try.func15 (by rfl) (by rfl) (.tmp (by rfl) .nil) (after_ok _ _ (by omega))
        · rfl
        · (try dsimp only [putT, List.set_cons_zero, List.set_cons_succ]); try exact rfl
        apply al_stepN
        · exact op_move_tmp (by rfl)
        · rfl
        · (try dsimp only [putT, List.set_cons_zero, List.set_cons_succ]); try exact rfl
        apply al_stepN
        · exact op_extract (by rfl) (by rfl)
        · rfl
        · (try dsimp only [putT, List.set_cons_zero, List.set_cons_succ]); try exact rfl
        apply al_stepN
        · exact op_extract (by rfl) (by rfl)
        · rfl
        · (try dsimp only [putT, List.set_cons_zero, List.set_cons_succ]); try exact rfl
        apply al_stepN
        · exact op_assign_tmp (by rfl)
        · rfl
        · (try dsimp only [putT, List.set_cons_zero, List.set_cons_succ]); try exact rfl
        apply al_stepN
        · exact op_assign_tmp (by rfl)
        · rfl
        · (try dsimp only [putT, List.set_cons_zero, List.set_cons_succ]); try exact rfl
        apply al_end
        · (try dsimp only [putT, List.set_cons_zero, List.set_cons_succ]); try exact rfl
        refine then_normal ?_
        refine aw_seq ?_
        refine aw_region ?_
        apply al_stepN
        · exact op_assign_const (by rfl)
        · rfl
        · (try dsimp only [putT, List.set_cons_zero, List.set_cons_succ]); try exact rfl
        apply al_end
        · (try dsimp only [putT, List.set_cons_zero, List.set_cons_succ]); try exact rfl
        refine then_normal ?_
        refine aw_seq ?_
        refine aw_seq ?_
        refine aw_region ?_
        apply al_stepN
        · exact op_assign_const (by rfl)
        · rfl
        · (try dsimp only [putT, List.set_cons_zero, List.set_cons_succ]); try exact rfl
        apply al_end
        · (try dsimp only [putT, List.set_cons_zero, List.set_cons_succ]); try exact rfl
        refine then_normal ?_
        refine aw_block ?_
        apply aw_loopF (fun n T H => ∃ (k : Nat), T = ((.d (S p)) :: (.d (S s)) :: .un :: .un :: .un :: (.d (S ((after p).getD []))) :: (.d (TF (after p).isSome)) :: (.d (TF ((p.take k).all fun c => c == 255))) :: (.d (I k)) :: .un :: .un :: .un :: .un :: .un :: .un :: .un :: .un :: .un :: .un :: .un :: .un :: .un :: .un :: .un :: .un :: .un :: .un :: .un :: .un :: .un :: .un :: .un :: .un :: .un :: .un :: .un :: .un :: .un :: .un :: .un :: .un :: .un :: .un :: .un :: .un :: .un :: .un :: .un :: .un :: .un :: .un :: .un :: .un :: .un :: .un :: .un :: .un :: .un :: .un :: .un :: .un :: .un :: .un :: .un :: .un :: .un :: .un :: .un :: .un :: .un :: .un :: .un :: .un :: .un :: .un :: []) ∧ k ≤ p.length ∧ n = p.length - k ∧ H = Hs) (p.length) (true :: true :: false :: false :: false :: true :: true :: true :: true :: false :: false :: false :: false :: false :: false :: false :: false :: false :: false :: false :: false :: false :: false :: false :: false :: false :: false :: false :: false :: false :: false :: false :: false :: false :: false :: false :: false :: false :: false :: false :: false :: false :: false :: false :: false :: false :: false :: false :: false :: false :: false :: false :: false :: false :: false :: false :: false :: false :: false :: false :: false :: false :: false :: false :: false :: false :: false :: false :: false :: false :: false :: false :: false :: false :: false :: [])
        · (try dsimp only [maskT]); try exact rfl
        · rfl
        · exact ⟨0, rfl, by omega, rfl, rfl⟩
        rintro n T H ⟨k, rfl, hk, rfl, rfl⟩
        refine aw_seq ?_
        refine aw_seq ?_
        refine aw_region ?_
        apply al_stepN
        · exact op_move_tmp (by rfl)
        · rfl
        · (try dsimp only [putT, List.set_cons_zero, List.set_cons_succ]); try exact rfl
        apply al_stepN
        · exact op_move_tmp (by rfl)
        · rfl
        · (try dsimp only [putT, List.set_cons_zero, List.set_cons_succ]); try exact rfl
        apply al_stepN
        · exact op_lenS Try.underlying9 (by rfl)
        · rfl
        · (try dsimp only [putT, List.set_cons_zero, List.set_cons_succ]); try exact rfl
        apply al_stepN
        · exact op_ltI (by rfl) (by rfl)
        · rfl
        · (try dsimp only [putT, List.set_cons_zero, List.set_cons_succ]); try exact rfl
        apply al_end
        · (try dsimp only [putT, List.set_cons_zero, List.set_cons_succ]); try exact rfl
        refine then_normal ?_
        refine aw_cond rfl (fun hc5 => ?_) (fun hc5 => ?_)
        · skip
          (try simp only [decide_eq_true_eq, decide_eq_false_iff_not, beq_iff_eq, beq_eq_false_iff_ne, Bool.not_eq_true', Bool.not_eq_false', bne_iff_ne, ne_eq, Decidable.not_not, bne_eq_false_iff_eq, List.length_map] at hc5)
          have hlt : k < p.length := by omega
          obtain ⟨c, hcc⟩ : ∃ c, p[k]? = some c := ⟨_, List.getElem?_eq_getElem hlt⟩
          have hall : ((p.take (k + 1)).all fun c => c == 255) = (((p.take k).all fun c => c == 255) && c == 255) := by rw [take_snoc hcc]; simp
          have hbb : ((c.toNat : Int) == 255) = (c == 255) := by rw [Bool.eq_iff_iff]; simp only [beq_iff_eq]; exact ⟨fun e => UInt8.toNat_inj.1 (by show c.toNat = 255; omega), fun e => by subst e; rfl⟩
          refine aw_skip ?_
          refine then_normal ?_
          refine aw_seq ?_
          refine aw_block ?_
          refine aw_region ?_
          apply al_stepN
          · exact op_move_tmp (by rfl)
          · rfl
          · (try dsimp only [putT, List.set_cons_zero, List.set_cons_succ]); try exact rfl
          apply al_stepN
          · exact op_move_tmp (by rfl)
          · rfl
          · (try dsimp only [putT, List.set_cons_zero, List.set_cons_succ]); try exact rfl
          refine al_split 31 rfl (fun hg6 => ?_) (fun hg6 => ?_)
          · skip
            (try simp only [decide_eq_true_eq, decide_eq_false_iff_not, beq_iff_eq, beq_eq_false_iff_ne, Bool.not_eq_true', Bool.not_eq_false', bne_iff_ne, ne_eq, Decidable.not_not, bne_eq_false_iff_eq, List.length_map] at hg6)
            have hg : ((p.take k).all fun c => c == 255) = true := hg6
            apply al_normT
            · (try dsimp only [putT, List.set_cons_zero, List.set_cons_succ]); try exact rfl
            apply al_wantedN
            · rfl
            · rfl
            · rfl
            · exact op_move_tmp (by rfl)
            · (try dsimp only [putT, List.set_cons_zero, List.set_cons_succ]); try exact rfl
            apply al_wantedN
            · rfl
            · rfl
            · rfl
            · exact op_move_tmp (by rfl)
            · (try dsimp only [putT, List.set_cons_zero, List.set_cons_succ]); try exact rfl
            apply al_wantedN
            · rfl
            · rfl
            · rfl
            · exact op_indexS Try.underlying9 (by rfl) (by rfl) (by omega) (show p[((k : Nat) : Int).toNat]? = some c by simpa using hcc)
            · (try dsimp only [putT, List.set_cons_zero, List.set_cons_succ]); try exact rfl
            apply al_wantedN
            · rfl
            · rfl
            · rfl
            · exact op_eqI (by rfl) (by rfl)
            · (try dsimp only [putT, List.set_cons_zero, List.set_cons_succ]); try exact rfl
            apply al_stepN
            · exact op_pick_tt (by rfl) (val_tmp (by rfl))
            · rfl
            · (try dsimp only [putT, List.set_cons_zero, List.set_cons_succ]); try exact rfl
            apply al_stepN
            · exact op_assign_tmp (by rfl)
            · rfl
            · (try dsimp only [putT, List.set_cons_zero, List.set_cons_succ]); try exact rfl
            apply al_end
            · (try dsimp only [putT, List.set_cons_zero, List.set_cons_succ]); try exact rfl
            refine inBlock_normal (then_normal ?_)
            refine aw_region ?_
            apply al_stepN
            · exact op_move_tmp (by rfl)
            · rfl
            · (try dsimp only [putT, List.set_cons_zero, List.set_cons_succ]); try exact rfl
            apply al_stepN
            · first | exact op_add (by rfl) (by rfl) (wrap_i64 ⟨by omega, by omega⟩) | exact op_add (by rfl) (by rfl) (by rfl)
            · rfl
            · (try dsimp only [putT, List.set_cons_zero, List.set_cons_succ]); try exact rfl
            apply al_stepN
            · exact op_assign_tmp (by rfl)
            · rfl
            · (try dsimp only [putT, List.set_cons_zero, List.set_cons_succ]); try exact rfl
            apply al_end
            · (try dsimp only [putT, List.set_cons_zero, List.set_cons_succ]); try exact rfl
            apply again_to (p.length - (k + 1)) (true :: true :: false :: false :: false :: true :: true :: true :: true :: false :: false :: false :: false :: false :: false :: false :: false :: false :: false :: false :: false :: false :: false :: false :: false :: false :: false :: false :: false :: false :: false :: false :: false :: false :: false :: false :: false :: false :: false :: false :: false :: false :: false :: false :: false :: false :: false :: false :: false :: false :: false :: false :: false :: false :: false :: false :: false :: false :: false :: false :: false :: false :: false :: false :: false :: false :: false :: false :: false :: false :: false :: false :: false :: false :: false :: [])
            · (try dsimp only [maskT]); try exact rfl
            · rfl
            · omega
            exact ⟨k + 1, by rw [hall, hbb, hg]; rfl, by omega, rfl, rfl⟩
          · skip
            (try simp only [decide_eq_true_eq, decide_eq_false_iff_not, beq_iff_eq, beq_eq_false_iff_ne, Bool.not_eq_true', Bool.not_eq_false', bne_iff_ne, ne_eq, Decidable.not_not, bne_eq_false_iff_eq, List.length_map] at hg6)
            have hg : ((p.take k).all fun c => c == 255) = false := hg6
            apply al_normT
            · (try dsimp only [putT, List.set_cons_zero, List.set_cons_succ]); try exact rfl
            refine al_unwanted rfl rfl rfl rfl ?_
            apply al_normT
            · (try dsimp only [putT, List.set_cons_zero, List.set_cons_succ]); try exact rfl
            refine al_unwanted rfl rfl rfl rfl ?_
            apply al_normT
            · (try dsimp only [putT, List.set_cons_zero, List.set_cons_succ]); try exact rfl
            refine al_unwanted rfl rfl rfl rfl ?_
            apply al_normT
            · (try dsimp only [putT, List.set_cons_zero, List.set_cons_succ]); try exact rfl
            refine al_unwanted rfl rfl rfl rfl ?_
            apply al_normT
            · (try dsimp only [putT, List.set_cons_zero, List.set_cons_succ]); try exact rfl
            apply al_stepN
            · exact op_pick_ff (by rfl) (val_const (by rfl))
            · rfl
            · (try dsimp only [putT, List.set_cons_zero, List.set_cons_succ]); try exact rfl
            apply al_stepN
            · exact op_assign_tmp (by rfl)
            · rfl
            · (try dsimp only [putT, List.set_cons_zero, List.set_cons_succ]); try exact rfl
            apply al_end
            · (try dsimp only [putT, List.set_cons_zero, List.set_cons_succ]); try exact rfl
            refine inBlock_normal (then_normal ?_)
            refine aw_region ?_
            apply al_stepN
            · exact op_move_tmp (by rfl)
            · rfl
            · (try dsimp only [putT, List.set_cons_zero, List.set_cons_succ]); try exact rfl
            apply al_stepN
            · first | exact op_add (by rfl) (by rfl) (wrap_i64 ⟨by omega, by omega⟩) | exact op_add (by rfl) (by rfl) (by rfl)
            · rfl
            · (try dsimp only [putT, List.set_cons_zero, List.set_cons_succ]); try exact rfl
            apply al_stepN
            · exact op_assign_tmp (by rfl)
            · rfl
            · (try dsimp only [putT, List.set_cons_zero, List.set_cons_succ]); try exact rfl
            apply al_end
            · (try dsimp only [putT, List.set_cons_zero, List.set_cons_succ]); try exact rfl
            apply again_to (p.length - (k + 1)) (true :: true :: false :: false :: false :: true :: true :: true :: true :: false :: false :: false :: false :: false :: false :: false :: false :: false :: false :: false :: false :: false :: false :: false :: false :: false :: false :: false :: false :: false :: false :: false :: false :: false :: false :: false :: false :: false :: false :: false :: false :: false :: false :: false :: false :: false :: false :: false :: false :: false :: false :: false :: false :: false :: false :: false :: false :: false :: false :: false :: false :: false :: false :: false :: false :: false :: false :: false :: false :: false :: false :: false :: false :: false :: false :: [])
            · (try dsimp only [maskT]); try exact rfl
            · rfl
            · omega
            exact ⟨k + 1, by rw [hall, hg]; rfl, by omega, rfl, rfl⟩
        · skip
          (try simp only [decide_eq_true_eq, decide_eq_false_iff_not, beq_iff_eq, beq_eq_false_iff_ne, Bool.not_eq_true', Bool.not_eq_false', bne_iff_ne, ne_eq, Decidable.not_not, bne_eq_false_iff_eq, List.length_map] at hc5)
          have hke : k = p.length := by omega
          subst hke
          rw [List.take_length, after_eq] 
          have hsome := aft_none p
          refine aw_exit ?_
          refine then_exit (again_exit (inBlock_here (then_normal ?_)))
          refine aw_seq ?_
          refine aw_seq ?_
          refine aw_region ?_
          apply al_stepN
          · exact op_move_tmp (by rfl)
          · rfl
          · (try dsimp only [putT, List.set_cons_zero, List.set_cons_succ]); try exact rfl
          apply al_stepN
          · exact op_move_tmp (by rfl)
          · rfl
          · (try dsimp only [putT, List.set_cons_zero, List.set_cons_succ]); try exact rfl
          apply al_stepN
          · exact op_eqB Try.underlying4 (by rfl) (by rfl)
          · rfl
          · (try dsimp only [putT, List.set_cons_zero, List.set_cons_succ]); try exact rfl
          apply al_end
          · (try dsimp only [putT, List.set_cons_zero, List.set_cons_succ]); try exact rfl
          refine then_normal ?_
          refine aw_cond rfl (fun hc7 => ?_) (fun hc7 => ?_)
          · skip
            (try simp only [decide_eq_true_eq, decide_eq_false_iff_not, beq_iff_eq, beq_eq_false_iff_ne, Bool.not_eq_true', Bool.not_eq_false', bne_iff_ne, ne_eq, Decidable.not_not, bne_eq_false_iff_eq, List.length_map] at hc7)
            have hA := hc7
            refine aw_seq ?_
            refine aw_region ?_
            apply al_stepN
            · exact op_assign_const (by rfl)
            · rfl
            · (try dsimp only [putT, List.set_cons_zero, List.set_cons_succ]); try exact rfl
            apply al_end
            · (try dsimp only [putT, List.set_cons_zero, List.set_cons_succ]); try exact rfl
            refine then_normal ?_
            refine aw_ret ?_
            refine then_ret ?_
            refine retPost1 rfl rfl ?_
            exact absurd hsome (by rw [hA]; cases (p.all fun c => c == 255) <;> simp)
          · skip
            (try simp only [decide_eq_true_eq, decide_eq_false_iff_not, beq_iff_eq, beq_eq_false_iff_ne, Bool.not_eq_true', Bool.not_eq_false', bne_iff_ne, ne_eq, Decidable.not_not, bne_eq_false_iff_eq, List.length_map] at hc7)
            refine aw_skip ?_
            refine then_normal ?_
            refine aw_seq ?_
            refine aw_seq ?_
            refine aw_region ?_
            apply al_stepN
            · exact op_move_tmp (by rfl)
            · rfl
            · (try dsimp only [putT, List.set_cons_zero, List.set_cons_succ]); try exact rfl
            apply al_stepN
            · exact op_not (by rfl)
            · rfl
            · (try dsimp only [putT, List.set_cons_zero, List.set_cons_succ]); try exact rfl
            apply al_end
            · (try dsimp only [putT, List.set_cons_zero, List.set_cons_succ]); try exact rfl
            refine then_normal ?_
            refine aw_cond rfl (fun hc8 => ?_) (fun hc8 => ?_)
            · skip
              (try simp only [decide_eq_true_eq, decide_eq_false_iff_not, beq_iff_eq, beq_eq_false_iff_ne, Bool.not_eq_true', Bool.not_eq_false', bne_iff_ne, ne_eq, Decidable.not_not, bne_eq_false_iff_eq, List.length_map] at hc8)
              have hN : aft p = none := by simpa using hc8
              refine aw_seq ?_
              refine aw_region ?_
              apply al_stepN
              · exact op_move_tmp (by rfl)
              · rfl
              · (try dsimp only [putT, List.set_cons_zero, List.set_cons_succ]); try exact rfl
              apply al_stepN
              · exact op_eqS (by rfl) (by rfl)
              · rfl
              · (try dsimp only [putT, List.set_cons_zero, List.set_cons_succ]); try exact rfl
              apply al_stepN
              · exact op_move_tmp (by rfl)
              · rfl
              · (try dsimp only [putT, List.set_cons_zero, List.set_cons_succ]); try exact rfl
              refine al_split 44 rfl (fun hg9 => ?_) (fun hg9 => ?_)
              · skip
                (try simp only [decide_eq_true_eq, decide_eq_false_iff_not, beq_iff_eq, beq_eq_false_iff_ne, Bool.not_eq_true', Bool.not_eq_false', bne_iff_ne, ne_eq, Decidable.not_not, bne_eq_false_iff_eq, List.length_map] at hg9)
                apply al_normT
                · (try dsimp only [putT, List.set_cons_zero, List.set_cons_succ]); try exact rfl
                apply al_wantedN
                · rfl
                · rfl
                · rfl
                · exact op_move_tmp (by rfl)
                · (try dsimp only [putT, List.set_cons_zero, List.set_cons_succ]); try exact rfl
                apply al_wantedN
                · rfl
                · rfl
                · rfl
                · exact op_move_tmp (by rfl)
                · (try dsimp only [putT, List.set_cons_zero, List.set_cons_succ]); try exact rfl
                apply al_wantedN
                · rfl
                · rfl
                · rfl
                · exact op_ltS (by rfl) (by rfl)
                · (try dsimp only [putT, List.set_cons_zero, List.set_cons_succ]); try exact rfl
                apply al_wantedN
                · rfl
                · rfl
                · rfl
                · exact op_move_tmp (by rfl)
                · (try dsimp only [putT, List.set_cons_zero, List.set_cons_succ]); try exact rfl
                refine al_split 48 rfl (fun hg10 => ?_) (fun hg10 => ?_)
                · skip
                  (try simp only [decide_eq_true_eq, decide_eq_false_iff_not, beq_iff_eq, beq_eq_false_iff_ne, Bool.not_eq_true', Bool.not_eq_false', bne_iff_ne, ne_eq, Decidable.not_not, bne_eq_false_iff_eq, List.length_map] at hg10)
                  apply al_normT
                  · (try dsimp only [putT, List.set_cons_zero, List.set_cons_succ]); try exact rfl
                  refine al_unwanted rfl rfl rfl rfl ?_
                  apply al_normT
                  · (try dsimp only [putT, List.set_cons_zero, List.set_cons_succ]); try exact rfl
                  refine al_unwanted rfl rfl rfl rfl ?_
                  apply al_normT
                  · (try dsimp only [putT, List.set_cons_zero, List.set_cons_succ]); try exact rfl
                  refine al_unwanted rfl rfl rfl rfl ?_
                  apply al_normT
                  · (try dsimp only [putT, List.set_cons_zero, List.set_cons_succ]); try exact rfl
                  apply al_wantedN
                  · rfl
                  · rfl
                  · rfl
                  · exact op_pick_tt (by rfl) (val_const (by rfl))
                  · (try dsimp only [putT, List.set_cons_zero, List.set_cons_succ]); try exact rfl
                  apply al_stepN
                  · exact op_pick_tt (by rfl) (val_tmp (by rfl))
                  · rfl
                  · (try dsimp only [putT, List.set_cons_zero, List.set_cons_succ]); try exact rfl
                  apply al_stepN
                  · exact op_assign_tmp (by rfl)
                  · rfl
                  · (try dsimp only [putT, List.set_cons_zero, List.set_cons_succ]); try exact rfl
                  apply al_end
                  · (try dsimp only [putT, List.set_cons_zero, List.set_cons_succ]); try exact rfl
                  refine then_normal ?_
                  refine aw_ret ?_
                  refine then_ret ?_
                  refine retPost1 rfl rfl ?_
                  exact rfl
                · skip
                  (try simp only [decide_eq_true_eq, decide_eq_false_iff_not, beq_iff_eq, beq_eq_false_iff_ne, Bool.not_eq_true', Bool.not_eq_false', bne_iff_ne, ne_eq, Decidable.not_not, bne_eq_false_iff_eq, List.length_map] at hg10)
                  have hL : Go.Op.bytesLess s p = false := by simpa using hg10
                  apply al_normT
                  · (try dsimp only [putT, List.set_cons_zero, List.set_cons_succ]); try exact rfl
                  apply al_wantedN
                  · rfl
                  · rfl
                  · rfl
                  · exact op_move_tmp (by rfl)
                  · (try dsimp only [putT, List.set_cons_zero, List.set_cons_succ]); try exact rfl
                  apply al_wantedN
                  · rfl
                  · rfl
                  · rfl
                  · exact op_move_tmp (by rfl)
                  · (try dsimp only [putT, List.set_cons_zero, List.set_cons_succ]); try exact rfl
                  apply al_wantedN
                  · rfl
                  · rfl
                  · rfl
                  · exact op_callF Try.func16 (by rfl) (by rfl) (.tmp (by rfl) (.tmp (by rfl) .nil)) (begins_ok _ _ _)
                  · (try dsimp only [putT, List.set_cons_zero, List.set_cons_succ]); try exact rfl
                  apply al_wantedN
                  · rfl
                  · rfl
                  · rfl
                  · exact op_pick_ff (by rfl) (val_tmp (by rfl))
                  · (try dsimp only [putT, List.set_cons_zero, List.set_cons_succ]); try exact rfl
                  apply al_stepN
                  · exact op_pick_tt (by rfl) (val_tmp (by rfl))
                  · rfl
                  · (try dsimp only [putT, List.set_cons_zero, List.set_cons_succ]); try exact rfl
                  apply al_stepN
                  · exact op_assign_tmp (by rfl)
                  · rfl
                  · (try dsimp only [putT, List.set_cons_zero, List.set_cons_succ]); try exact rfl
                  apply al_end
                  · (try dsimp only [putT, List.set_cons_zero, List.set_cons_succ]); try exact rfl
                  refine then_normal ?_
                  refine aw_ret ?_
                  refine then_ret ?_
                  refine retPost1 rfl rfl ?_
                  have := aft_all p s hN; rw [hL] at this; simpa [TF] using this
              · skip
                (try simp only [decide_eq_true_eq, decide_eq_false_iff_not, beq_iff_eq, beq_eq_false_iff_ne, Bool.not_eq_true', Bool.not_eq_false', bne_iff_ne, ne_eq, Decidable.not_not, bne_eq_false_iff_eq, List.length_map] at hg9)
                apply al_normT
                · (try dsimp only [putT, List.set_cons_zero, List.set_cons_succ]); try exact rfl
                simp [hN] at hg9
            · skip
              (try simp only [decide_eq_true_eq, decide_eq_false_iff_not, beq_iff_eq, beq_eq_false_iff_ne, Bool.not_eq_true', Bool.not_eq_false', bne_iff_ne, ne_eq, Decidable.not_not, bne_eq_false_iff_eq, List.length_map] at hc8)
              obtain ⟨x, hx⟩ : ∃ x, aft p = some x := Option.isSome_iff_exists.1 (by simpa using hc8)
              refine aw_skip ?_
              refine then_normal ?_
              refine aw_seq ?_
              refine aw_seq ?_
              refine aw_region ?_
              apply al_stepN
              · exact op_move_tmp (by rfl)
              · rfl
              · (try dsimp only [putT, List.set_cons_zero, List.set_cons_succ]); try exact rfl
              apply al_stepN
              · exact op_move_tmp (by rfl)
              · rfl
              · (try dsimp only [putT, List.set_cons_zero, List.set_cons_succ]); try exact rfl
              apply al_stepN
              · exact op_callF Try.func16 (by rfl) (by rfl) (.tmp (by rfl) (.tmp (by rfl) .nil)) (begins_ok _ _ _)
              · rfl
              · (try dsimp only [putT, List.set_cons_zero, List.set_cons_succ]); try exact rfl
              apply al_end
              · (try dsimp only [putT, List.set_cons_zero, List.set_cons_succ]); try exact rfl
              refine then_normal ?_
              refine aw_cond rfl (fun hc11 => ?_) (fun hc11 => ?_)
              · skip
                (try simp only [decide_eq_true_eq, decide_eq_false_iff_not, beq_iff_eq, beq_eq_false_iff_ne, Bool.not_eq_true', Bool.not_eq_false', bne_iff_ne, ne_eq, Decidable.not_not, bne_eq_false_iff_eq, List.length_map] at hc11)
                have hB : begins s p = true := by simpa using hc11
                refine aw_seq ?_
                refine aw_region ?_
                apply al_stepN
                · exact op_move_tmp (by rfl)
                · rfl
                · (try dsimp only [putT, List.set_cons_zero, List.set_cons_succ]); try exact rfl
                apply al_stepN
                · exact op_move_tmp (by rfl)
                · rfl
                · (try dsimp only [putT, List.set_cons_zero, List.set_cons_succ]); try exact rfl
                apply al_stepN
                · exact op_ltS (by rfl) (by rfl)
                · rfl
                · (try dsimp only [putT, List.set_cons_zero, List.set_cons_succ]); try exact rfl
                apply al_stepN
                · exact op_assign_tmp (by rfl)
                · rfl
                · (try dsimp only [putT, List.set_cons_zero, List.set_cons_succ]); try exact rfl
                apply al_end
                · (try dsimp only [putT, List.set_cons_zero, List.set_cons_succ]); try exact rfl
                refine then_normal ?_
                refine aw_ret ?_
                refine then_ret ?_
                refine retPost1 rfl rfl ?_
                obtain ⟨r, rfl⟩ := begins_iff.1 hB; simp [hx, TF, aft_above hx r]
              · skip
                (try simp only [decide_eq_true_eq, decide_eq_false_iff_not, beq_iff_eq, beq_eq_false_iff_ne, Bool.not_eq_true', Bool.not_eq_false', bne_iff_ne, ne_eq, Decidable.not_not, bne_eq_false_iff_eq, List.length_map] at hc11)
                have hB : begins s p = false := by simpa using hc11
                refine aw_skip ?_
                refine then_normal ?_
                refine aw_seq ?_
                refine aw_region ?_
                apply al_stepN
                · exact op_move_tmp (by rfl)
                · rfl
                · (try dsimp only [putT, List.set_cons_zero, List.set_cons_succ]); try exact rfl
                apply al_stepN
                · exact op_move_tmp (by rfl)
                · rfl
                · (try dsimp only [putT, List.set_cons_zero, List.set_cons_succ]); try exact rfl
                apply al_stepN
                · exact op_geS (by rfl) (by rfl)
                · rfl
                · (try dsimp only [putT, List.set_cons_zero, List.set_cons_succ]); try exact rfl
                apply al_stepN
                · exact op_move_tmp (by rfl)
                · rfl
                · (try dsimp only [putT, List.set_cons_zero, List.set_cons_succ]); try exact rfl
                refine al_split 63 rfl (fun hg12 => ?_) (fun hg12 => ?_)
                · skip
                  (try simp only [decide_eq_true_eq, decide_eq_false_iff_not, beq_iff_eq, beq_eq_false_iff_ne, Bool.not_eq_true', Bool.not_eq_false', bne_iff_ne, ne_eq, Decidable.not_not, bne_eq_false_iff_eq, List.length_map] at hg12)
                  have hL : Go.Op.bytesLess s p = false := by simpa using hg12
                  apply al_normT
                  · (try dsimp only [putT, List.set_cons_zero, List.set_cons_succ]); try exact rfl
                  apply al_wantedN
                  · rfl
                  · rfl
                  · rfl
                  · exact op_move_tmp (by rfl)
                  · (try dsimp only [putT, List.set_cons_zero, List.set_cons_succ]); try exact rfl
                  apply al_wantedN
                  · rfl
                  · rfl
                  · rfl
                  · exact op_move_tmp (by rfl)
                  · (try dsimp only [putT, List.set_cons_zero, List.set_cons_succ]); try exact rfl
                  apply al_wantedN
                  · rfl
                  · rfl
                  · rfl
                  · exact op_ltS (by rfl) (by rfl)
                  · (try dsimp only [putT, List.set_cons_zero, List.set_cons_succ]); try exact rfl
                  apply al_stepN
                  · exact op_pick_tt (by rfl) (val_tmp (by rfl))
                  · rfl
                  · (try dsimp only [putT, List.set_cons_zero, List.set_cons_succ]); try exact rfl
                  apply al_stepN
                  · exact op_not (by rfl)
                  · rfl
                  · (try dsimp only [putT, List.set_cons_zero, List.set_cons_succ]); try exact rfl
                  apply al_stepN
                  · exact op_move_tmp (by rfl)
                  · rfl
                  · (try dsimp only [putT, List.set_cons_zero, List.set_cons_succ]); try exact rfl
                  refine al_split 69 rfl (fun hg13 => ?_) (fun hg13 => ?_)
                  · skip
                    (try simp only [decide_eq_true_eq, decide_eq_false_iff_not, beq_iff_eq, beq_eq_false_iff_ne, Bool.not_eq_true', Bool.not_eq_false', bne_iff_ne, ne_eq, Decidable.not_not, bne_eq_false_iff_eq, List.length_map] at hg13)
                    apply al_normT
                    · (try dsimp only [putT, List.set_cons_zero, List.set_cons_succ]); try exact rfl
                    apply al_wantedN
                    · rfl
                    · rfl
                    · rfl
                    · exact op_move_tmp (by rfl)
                    · (try dsimp only [putT, List.set_cons_zero, List.set_cons_succ]); try exact rfl
                    apply al_wantedN
                    · rfl
                    · rfl
                    · rfl
                    · exact op_move_tmp (by rfl)
                    · (try dsimp only [putT, List.set_cons_zero, List.set_cons_succ]); try exact rfl
                    apply al_wantedN
                    · rfl
                    · rfl
                    · rfl
                    · exact op_callF Try.func16 (by rfl) (by rfl) (.tmp (by rfl) (.tmp (by rfl) .nil)) (begins_ok _ _ _)
                    · (try dsimp only [putT, List.set_cons_zero, List.set_cons_succ]); try exact rfl
                    apply al_wantedN
                    · rfl
                    · rfl
                    · rfl
                    · exact op_not (by rfl)
                    · (try dsimp only [putT, List.set_cons_zero, List.set_cons_succ]); try exact rfl
                    apply al_stepN
                    · exact op_pick_tt (by rfl) (val_tmp (by rfl))
                    · rfl
                    · (try dsimp only [putT, List.set_cons_zero, List.set_cons_succ]); try exact rfl
                    apply al_stepN
                    · exact op_assign_tmp (by rfl)
                    · rfl
                    · (try dsimp only [putT, List.set_cons_zero, List.set_cons_succ]); try exact rfl
                    apply al_end
                    · (try dsimp only [putT, List.set_cons_zero, List.set_cons_succ]); try exact rfl
                    refine then_normal ?_
                    refine aw_ret ?_
                    refine retPost1 rfl rfl ?_
                    simp [hx, TF, aft_not hx]
                  · skip
                    (try simp only [decide_eq_true_eq, decide_eq_false_iff_not, beq_iff_eq, beq_eq_false_iff_ne, Bool.not_eq_true', Bool.not_eq_false', bne_iff_ne, ne_eq, Decidable.not_not, bne_eq_false_iff_eq, List.length_map] at hg13)
                    apply al_normT
                    · (try dsimp only [putT, List.set_cons_zero, List.set_cons_succ]); try exact rfl
                    exact absurd (aft_below hx hL (by simpa [hx] using hg13)) (by simp [hB])
                · skip
                  (try simp only [decide_eq_true_eq, decide_eq_false_iff_not, beq_iff_eq, beq_eq_false_iff_ne, Bool.not_eq_true', Bool.not_eq_false', bne_iff_ne, ne_eq, Decidable.not_not, bne_eq_false_iff_eq, List.length_map] at hg12)
                  apply al_normT
                  · (try dsimp only [putT, List.set_cons_zero, List.set_cons_succ]); try exact rfl
                  refine al_unwanted rfl rfl rfl rfl ?_
                  apply al_normT
                  · (try dsimp only [putT, List.set_cons_zero, List.set_cons_succ]); try exact rfl
                  refine al_unwanted rfl rfl rfl rfl ?_
                  apply al_normT
                  · (try dsimp only [putT, List.set_cons_zero, List.set_cons_succ]); try exact rfl
                  refine al_unwanted rfl rfl rfl rfl ?_
                  apply al_normT
                  · (try dsimp only [putT, List.set_cons_zero, List.set_cons_succ]); try exact rfl
                  apply al_stepN
                  · exact op_pick_ff (by rfl) (val_const (by rfl))
                  · rfl
                  · (try dsimp only [putT, List.set_cons_zero, List.set_cons_succ]); try exact rfl
                  apply al_stepN
                  · exact op_not (by rfl)
                  · rfl
                  · (try dsimp only [putT, List.set_cons_zero, List.set_cons_succ]); try exact rfl
                  apply al_stepN
                  · exact op_move_tmp (by rfl)
                  · rfl
                  · (try dsimp only [putT, List.set_cons_zero, List.set_cons_succ]); try exact rfl
                  apply al_wantedN
                  · rfl
                  · rfl
                  · rfl
                  · exact op_move_tmp (by rfl)
                  · (try dsimp only [putT, List.set_cons_zero, List.set_cons_succ]); try exact rfl
                  apply al_wantedN
                  · rfl
                  · rfl
                  · rfl
                  · exact op_move_tmp (by rfl)
                  · (try dsimp only [putT, List.set_cons_zero, List.set_cons_succ]); try exact rfl
                  apply al_wantedN
                  · rfl
                  · rfl
                  · rfl
                  · exact op_callF Try.func16 (by rfl) (by rfl) (.tmp (by rfl) (.tmp (by rfl) .nil)) (begins_ok _ _ _)
                  · (try dsimp only [putT, List.set_cons_zero, List.set_cons_succ]); try exact rfl
                  apply al_wantedN
                  · rfl
                  · rfl
                  · rfl
                  · exact op_not (by rfl)
                  · (try dsimp only [putT, List.set_cons_zero, List.set_cons_succ]); try exact rfl
                  apply al_stepN
                  · exact op_pick_tt (by rfl) (val_tmp (by rfl))
                  · rfl
                  · (try dsimp only [putT, List.set_cons_zero, List.set_cons_succ]); try exact rfl
                  apply al_stepN
                  · exact op_assign_tmp (by rfl)
                  · rfl
                  · (try dsimp only [putT, List.set_cons_zero, List.set_cons_succ]); try exact rfl
                  apply al_end
                  · (try dsimp only [putT, List.set_cons_zero, List.set_cons_succ]); try exact rfl
                  refine then_normal ?_
                  refine aw_ret ?_
                  refine retPost1 rfl rfl ?_
                  simp [hx, TF, aft_not hx]
end Go.Proofs.Ytlphmahlchgafaa
