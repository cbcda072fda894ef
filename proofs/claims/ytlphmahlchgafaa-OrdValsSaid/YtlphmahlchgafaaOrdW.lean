/- What the functions of layer 3 come to. -/
import Derived.Test.YtlphmahlchgafaaFacts
import Derived.Test.YtlphmahlchgafaaOrdPlain
import Derived.KernelRfl
namespace Go.Proofs.Ytlphmahlchgafaa
open Go.AV Go.AV.Ord
set_option linter.unusedVariables false
set_option linter.unusedSimpArgs false
set_option maxRecDepth 100000 in
theorem text_ok (Hs : HS) (t : Option Nat) (v : AV) (bs s : List UInt8) (hv : App v t 1 (bs.map BY)) (hok : Hs.ok t bs.length) (hb : bs.length + 2 * s.length + 2 ≤ 140737488355328) : ACalls Try.prog 12 [v, .d (S s)] Hs (Ret (ownB Hs t (bs ++ encT s)) (upB Hs t (bs ++ encT s))) := by
  refine acalls_of_aw Try.func12 rfl ?_
  refine aw_start (T' := [v, .d (S s), .un, .un, .un, .un, .un, .un, .un, .un, .un, .un, .un, .un, .un, .un, .un, .un, .un, .un, .un, .un, .un, .un, .un, .un, .un]) rfl ?_
  refine aw_seq ?_
  refine aw_region ?_
  apply al_stepN
  · exact op_assign_const (by rfl)
  · rfl
  · (try dsimp only [zS, zN, zH, zT]); try exact rfl
  apply al_end
  · (try dsimp only [zS, zN, zH, zT]); try exact rfl
  refine then_normal ?_
  refine aw_seq ?_
  refine aw_seq ?_
  refine aw_region ?_
  apply al_stepN
  · exact op_move_tmp (by rfl)
  · rfl
  · (try dsimp only [zS, zN, zH, zT]); try exact rfl
  apply al_stepN
  · exact op_bytes Try.underlying9 Try.underlying22 Try.underlying5 (by rfl)
  · rfl
  · (try dsimp only [zS, zN, zH, zT]); try exact rfl
  apply al_stepN
  · exact op_lenL Try.underlying22 (by first | exact LL.d _ _ | exact LL.own _ _ _ | exact LL.nil _ | assumption)
  · rfl
  · (try dsimp only [zS, zN, zH, zT]); try exact rfl
  apply al_stepN
  · exact op_move_const (by rfl)
  · rfl
  · (try dsimp only [zS, zN, zH, zT]); try exact rfl
  apply al_end
  · (try dsimp only [zS, zN, zH, zT]); try exact rfl
  refine then_normal ?_
  refine aw_block ?_
  apply aw_loopF (fun n T H => ∃ (k : Nat) (v' : AV), T = [v', .d (S s), .un, .un, .un, .un, .un, .un, .d (.lst 1 (s.map BY)), .d (I (s.map BY).length), .d (I k), .un, .un, .un, .un, .un, .un, .un, .un, .un, .un, .un, .un, .un, .un, .un, .un] ∧ k ≤ s.length ∧ n = s.length - k ∧ Bytes Hs t v' H (bs ++ enc0 (s.take k))) (s.length) [true, true, false, false, false, false, false, false, true, true, true, false, false, false, false, false, false, false, false, false, false, false, false, false, false, false, false]
  · (try dsimp only [maskT]); try exact rfl
  · rfl
  · exact ⟨0, v, rfl, Nat.zero_le _, rfl, by simpa [enc0] using Bytes.own hv hok⟩
  rintro n T H ⟨k, v', rfl, hk, rfl, hB⟩
  obtain ⟨t', hApp, hHeir, hOk⟩ := hB.ex
  have hE := enc0_len (s.take k)
  have hT : (s.take k).length = k := by simp; omega
  rw [hT] at hE
  refine aw_seq ?_
  refine aw_region ?_
  apply al_stepN
  · exact op_ltI (by rfl) (by rfl)
  · rfl
  · (try dsimp only [zS, zN, zH, zT]); try exact rfl
  apply al_end
  · (try dsimp only [zS, zN, zH, zT]); try exact rfl
  refine then_normal ?_
  refine aw_seq ?_
  refine aw_cond rfl (fun hc1 => ?_) (fun hc1 => ?_)
  · skip
    (try simp only [decide_eq_true_eq, decide_eq_false_iff_not, beq_iff_eq, beq_eq_false_iff_ne, Bool.not_eq_true', Bool.not_eq_false', bne_iff_ne, ne_eq, Decidable.not_not, bne_eq_false_iff_eq, List.length_map] at hc1)
    (try simp only [List.length_map] at hc1)
    have hlt : k < s.length := by omega
    obtain ⟨c, hcc⟩ : ∃ c, s[k]? = some c := ⟨_, List.getElem?_eq_getElem hlt⟩
    refine aw_skip ?_
    refine then_normal ?_
    refine aw_seq ?_
    refine aw_block ?_
    refine aw_seq ?_
    refine aw_region ?_
    apply al_stepN
    · exact op_indexAddr Try.underlying22 Sz5 (LL.d _ _) (by rfl) (by omega) (show (s.map BY)[((k : Nat) : Int).toNat]? = some (BY c) by simp [hcc]) (by rfl)
    · rfl
    · (try dsimp only [zS, zN, zH, zT]); try exact rfl
    apply al_stepN
    · first | exact op_load_elt Try.underlying5 (by rfl) (by rfl) (by rfl) | exact op_load_ptr Try.underlying5 (by rfl) (by rfl) (by rfl) (by rfl)
    · rfl
    · (try dsimp only [zS, zN, zH, zT]); try exact rfl
    apply al_stepN
    · exact op_assign_tmp (by rfl)
    · rfl
    · (try dsimp only [zS, zN, zH, zT]); try exact rfl
    apply al_end
    · (try dsimp only [zS, zN, zH, zT]); try exact rfl
    refine then_normal ?_
    refine aw_seq ?_
    refine aw_region ?_
    apply al_stepN
    · exact op_move_tmp (by rfl)
    · rfl
    · (try dsimp only [zS, zN, zH, zT]); try exact rfl
    apply al_stepN
    · exact op_move_tmp (by rfl)
    · rfl
    · (try dsimp only [zS, zN, zH, zT]); try exact rfl
    apply al_stepN
    · exact op_lit Try.underlying22 ZS5 (.cons (by rfl) (.nil _)) (by rfl) (by simp [BY, S, I, TF, DV.cells]) (by simp [flat, BY, S, I, TF, DV.cells, DV.one]) (by decide)
    · rfl
    · (try dsimp only [zS, zN, zH, zT]); try exact rfl
    apply al_stepN
    · exact op_append Try.underlying22 Inf5 (by rfl) hApp (.list _ _ _ _ Try.underlying22 (LL.own _ _ _)) (by simpa using hOk) (by simp) (by simp <;> omega) (by simp <;> omega)
    · rfl
    · (try dsimp only [zS, zN, zH, zT]); try exact rfl
    apply al_stepN
    · exact op_assign_tmp (by rfl)
    · rfl
    · (try dsimp only [zS, zN, zH, zT]); try exact rfl
    apply al_end
    · (try dsimp only [zS, zN, zH, zT]); try exact rfl
    refine then_normal ?_
    refine aw_seq ?_
    refine aw_region ?_
    apply al_stepN
    · exact op_move_tmp (by rfl)
    · rfl
    · (try dsimp only [zS, zN, zH, zT]); try exact rfl
    apply al_stepN
    · exact op_eqI (by rfl) (by rfl)
    · rfl
    · (try dsimp only [zS, zN, zH, zT]); try exact rfl
    apply al_end
    · (try dsimp only [zS, zN, zH, zT]); try exact rfl
    refine then_normal ?_
    refine aw_cond rfl (fun hc2 => ?_) (fun hc2 => ?_)
    · skip
      (try simp only [decide_eq_true_eq, decide_eq_false_iff_not, beq_iff_eq, beq_eq_false_iff_ne, Bool.not_eq_true', Bool.not_eq_false', bne_iff_ne, ne_eq, Decidable.not_not, bne_eq_false_iff_eq, List.length_map] at hc2)
      have hc0 : c = 0 := UInt8.toNat_inj.1 (by have : ((c.toNat : Nat) : Int) = 0 := hc2; simpa using this)
      refine aw_region ?_
      apply al_stepN
      · exact op_move_tmp (by rfl)
      · rfl
      · (try dsimp only [zS, zN, zH, zT]); try exact rfl
      apply al_stepN
      · exact op_lit Try.underlying22 ZS5 (.cons (by rfl) (.nil _)) (by rfl) (by simp [BY, S, I, TF, DV.cells]) (by simp [flat, BY, S, I, TF, DV.cells, DV.one]) (by decide)
      · rfl
      · (try dsimp only [zS, zN, zH, zT]); try exact rfl
      apply al_stepN
      · exact op_append Try.underlying22 Inf5 (by rfl) (App.own _ _ _) (.list _ _ _ _ Try.underlying22 (LL.own _ _ _)) (HS.ok_up' hOk (by simp <;> omega)) (by simp) (by simp <;> omega) (by simp <;> omega)
      · rfl
      · (try dsimp only [zS, zN, zH, zT]); try exact rfl
      apply al_stepN
      · exact op_assign_tmp (by rfl)
      · rfl
      · (try dsimp only [zS, zN, zH, zT]); try exact rfl
      apply al_end
      · (try dsimp only [zS, zN, zH, zT]); try exact rfl
      refine inBlock_normal (then_normal ?_)
      refine aw_region ?_
      apply al_stepN
      · first | exact op_add (by rfl) (by rfl) (wrap_i64 ⟨by omega, by omega⟩) | exact op_add (by rfl) (by rfl) (by rfl)
      · rfl
      · (try dsimp only [zS, zN, zH, zT]); try exact rfl
      apply al_stepN
      · exact op_move_tmp (by rfl)
      · rfl
      · (try dsimp only [zS, zN, zH, zT]); try exact rfl
      apply al_end
      · (try dsimp only [zS, zN, zH, zT]); try exact rfl
      apply again_to (s.length - (k + 1)) [true, true, false, false, false, false, false, false, true, true, true, false, false, false, false, false, false, false, false, false, false, false, false, false, false, false, false]
      · (try dsimp only [maskT]); try exact rfl
      · rfl
      · omega
      exact ⟨k + 1, _, rfl, by omega, rfl, Bytes.grown' (hHeir.step _) (HS.ok_up' hOk rfl) (by subst hc0; simp [take_snoc hcc, enc0_snoc, enc1, BY]) (by simp <;> omega)⟩
    · skip
      (try simp only [decide_eq_true_eq, decide_eq_false_iff_not, beq_iff_eq, beq_eq_false_iff_ne, Bool.not_eq_true', Bool.not_eq_false', bne_iff_ne, ne_eq, Decidable.not_not, bne_eq_false_iff_eq, List.length_map] at hc2)
      have hc0 : c ≠ 0 := by intro e; subst e; exact absurd hc2 (by decide)
      refine aw_skip ?_
      refine inBlock_normal (then_normal ?_)
      refine aw_region ?_
      apply al_stepN
      · first | exact op_add (by rfl) (by rfl) (wrap_i64 ⟨by omega, by omega⟩) | exact op_add (by rfl) (by rfl) (by rfl)
      · rfl
      · (try dsimp only [zS, zN, zH, zT]); try exact rfl
      apply al_stepN
      · exact op_move_tmp (by rfl)
      · rfl
      · (try dsimp only [zS, zN, zH, zT]); try exact rfl
      apply al_end
      · (try dsimp only [zS, zN, zH, zT]); try exact rfl
      apply again_to (s.length - (k + 1)) [true, true, false, false, false, false, false, false, true, true, true, false, false, false, false, false, false, false, false, false, false, false, false, false, false, false, false]
      · (try dsimp only [maskT]); try exact rfl
      · rfl
      · omega
      exact ⟨k + 1, _, rfl, by omega, rfl, Bytes.grown' hHeir hOk (by simp [take_snoc hcc, enc0_snoc, enc1, hc0]) (by simp <;> omega)⟩
  · skip
    (try simp only [decide_eq_true_eq, decide_eq_false_iff_not, beq_iff_eq, beq_eq_false_iff_ne, Bool.not_eq_true', Bool.not_eq_false', bne_iff_ne, ne_eq, Decidable.not_not, bne_eq_false_iff_eq, List.length_map] at hc1)
    (try simp only [List.length_map] at hc1)
    have hke : k = s.length := by omega
    subst hke
    simp only [List.take_length] at hApp hOk hE
    refine aw_exit ?_
    refine then_exit (again_exit (inBlock_here (then_normal ?_)))
    refine aw_seq ?_
    refine aw_region ?_
    apply al_stepN
    · exact op_move_tmp (by rfl)
    · rfl
    · (try dsimp only [zS, zN, zH, zT]); try exact rfl
    apply al_stepN
    · exact op_lit Try.underlying22 ZS5 (.cons (by rfl) (.cons (by rfl) (.nil _))) (by rfl) (by simp [BY, S, I, TF, DV.cells]) (by simp [flat, BY, S, I, TF, DV.cells, DV.one]) (by decide)
    · rfl
    · (try dsimp only [zS, zN, zH, zT]); try exact rfl
    apply al_stepN
    · exact op_append Try.underlying22 Inf5 (by rfl) hApp (.list _ _ _ _ Try.underlying22 (LL.own _ _ _)) (by simpa using hOk) (by simp) (by simp <;> omega) (by simp <;> omega)
    · rfl
    · (try dsimp only [zS, zN, zH, zT]); try exact rfl
    apply al_stepN
    · exact op_assign_tmp (by rfl)
    · rfl
    · (try dsimp only [zS, zN, zH, zT]); try exact rfl
    apply al_end
    · (try dsimp only [zS, zN, zH, zT]); try exact rfl
    refine then_normal ?_
    refine aw_ret ?_
    refine retPost1 rfl rfl ?_
    refine ⟨?_, ?_⟩
    · rw [hHeir.tk]; simp [ownB, encT, BY]
    · rw [hHeir.up]; simp [upB, encT, Nat.add_assoc]
set_option maxRecDepth 100000 in
theorem by_ok (H : HS) (a b : List UInt8) : ACalls Try.prog 13 [.d (S a), .d (S b)] H (Ret (.d (I (byL a b))) H) := by
  refine acalls_of_aw Try.func13 rfl ?_
  refine aw_start (T' := [.d (S a), .d (S b), .un, .un, .un, .un, .un, .un, .un, .un, .un]) rfl ?_
  refine aw_seq ?_
  refine aw_region ?_
  apply al_stepN
  · exact op_assign_const (by rfl)
  · rfl
  · (try dsimp only [zS, zN, zH, zT]); try exact rfl
  apply al_end
  · (try dsimp only [zS, zN, zH, zT]); try exact rfl
  refine then_normal ?_
  refine aw_seq ?_
  refine aw_seq ?_
  refine aw_region ?_
  apply al_stepN
  · exact op_move_tmp (by rfl)
  · rfl
  · (try dsimp only [zS, zN, zH, zT]); try exact rfl
  apply al_stepN
  · exact op_move_tmp (by rfl)
  · rfl
  · (try dsimp only [zS, zN, zH, zT]); try exact rfl
  apply al_stepN
  · exact op_ltS (by rfl) (by rfl)
  · rfl
  · (try dsimp only [zS, zN, zH, zT]); try exact rfl
  apply al_end
  · (try dsimp only [zS, zN, zH, zT]); try exact rfl
  refine then_normal ?_
  refine aw_cond rfl (fun hc1 => ?_) (fun hc1 => ?_)
  · skip
    refine aw_seq ?_
    refine aw_region ?_
    apply al_stepN
    · exact op_assign_const (by rfl)
    · rfl
    · (try dsimp only [zS, zN, zH, zT]); try exact rfl
    apply al_end
    · (try dsimp only [zS, zN, zH, zT]); try exact rfl
    refine then_normal ?_
    refine aw_ret ?_
    refine then_ret ?_
    refine retPost1 rfl rfl ?_
    exact ⟨by simp [byL, hc1, I], rfl⟩
  · skip
    refine aw_skip ?_
    refine then_normal ?_
    refine aw_seq ?_
    refine aw_seq ?_
    refine aw_region ?_
    apply al_stepN
    · exact op_move_tmp (by rfl)
    · rfl
    · (try dsimp only [zS, zN, zH, zT]); try exact rfl
    apply al_stepN
    · exact op_move_tmp (by rfl)
    · rfl
    · (try dsimp only [zS, zN, zH, zT]); try exact rfl
    apply al_stepN
    · exact op_gtS (by rfl) (by rfl)
    · rfl
    · (try dsimp only [zS, zN, zH, zT]); try exact rfl
    apply al_end
    · (try dsimp only [zS, zN, zH, zT]); try exact rfl
    refine then_normal ?_
    refine aw_cond rfl (fun hc2 => ?_) (fun hc2 => ?_)
    · skip
      refine aw_seq ?_
      refine aw_region ?_
      apply al_stepN
      · exact op_assign_const (by rfl)
      · rfl
      · (try dsimp only [zS, zN, zH, zT]); try exact rfl
      apply al_end
      · (try dsimp only [zS, zN, zH, zT]); try exact rfl
      refine then_normal ?_
      refine aw_ret ?_
      refine then_ret ?_
      refine retPost1 rfl rfl ?_
      exact ⟨by simp [byL, hc1, I] <;> simp_all, rfl⟩
    · skip
      refine aw_skip ?_
      refine then_normal ?_
      refine aw_seq ?_
      refine aw_region ?_
      apply al_stepN
      · exact op_assign_const (by rfl)
      · rfl
      · (try dsimp only [zS, zN, zH, zT]); try exact rfl
      apply al_end
      · (try dsimp only [zS, zN, zH, zT]); try exact rfl
      refine then_normal ?_
      refine aw_ret ?_
      refine retPost1 rfl rfl ?_
      exact ⟨by simp [byL, hc1, I] <;> simp_all, rfl⟩
set_option maxRecDepth 100000 in
theorem begins_ok (H : HS) (a b : List UInt8) : ACalls Try.prog 16 [.d (S a), .d (S b)] H (Ret (.d (TF (begins a b))) H) := by
  refine acalls_of_aw Try.func16 rfl ?_
  refine aw_start (T' := [.d (S a), .d (S b), .un, .un, .un, .un, .un, .un, .un, .un, .un, .un, .un, .un, .un, .un, .un, .un]) rfl ?_
  refine aw_seq ?_
  refine aw_region ?_
  apply al_stepN
  · exact op_assign_const (by rfl)
  · rfl
  · (try dsimp only [zS, zN, zH, zT]); try exact rfl
  apply al_end
  · (try dsimp only [zS, zN, zH, zT]); try exact rfl
  refine then_normal ?_
  refine aw_seq ?_
  refine aw_region ?_
  apply al_stepN
  · exact op_move_tmp (by rfl)
  · rfl
  · (try dsimp only [zS, zN, zH, zT]); try exact rfl
  apply al_stepN
  · exact op_lenS Try.underlying9 (by rfl)
  · rfl
  · (try dsimp only [zS, zN, zH, zT]); try exact rfl
  apply al_stepN
  · exact op_move_tmp (by rfl)
  · rfl
  · (try dsimp only [zS, zN, zH, zT]); try exact rfl
  apply al_stepN
  · exact op_lenS Try.underlying9 (by rfl)
  · rfl
  · (try dsimp only [zS, zN, zH, zT]); try exact rfl
  apply al_stepN
  · exact op_geI (by rfl) (by rfl)
  · rfl
  · (try dsimp only [zS, zN, zH, zT]); try exact rfl
  apply al_stepN
  · exact op_move_tmp (by rfl)
  · rfl
  · (try dsimp only [zS, zN, zH, zT]); try exact rfl
  refine al_split 10 rfl (fun hg1 => ?_) (fun hg1 => ?_)
  · skip
    (try simp only [decide_eq_true_eq, decide_eq_false_iff_not, beq_iff_eq, beq_eq_false_iff_ne, Bool.not_eq_true', Bool.not_eq_false', bne_iff_ne, ne_eq, Decidable.not_not, bne_eq_false_iff_eq, List.length_map] at hg1)
    apply al_normT
    · (try dsimp only [zS, zN, zH, zT]); try exact rfl
    apply al_wantedN
    · rfl
    · rfl
    · rfl
    · exact op_move_tmp (by rfl)
    · (try dsimp only [zS, zN, zH, zT]); try exact rfl
    apply al_wantedN
    · rfl
    · rfl
    · rfl
    · exact op_move_tmp (by rfl)
    · (try dsimp only [zS, zN, zH, zT]); try exact rfl
    apply al_wantedN
    · rfl
    · rfl
    · rfl
    · exact op_lenS Try.underlying9 (by rfl)
    · (try dsimp only [zS, zN, zH, zT]); try exact rfl
    apply al_wantedN
    · rfl
    · rfl
    · rfl
    · exact op_sliceS0 (a.take b.length) Try.underlying9 (by rfl) (by rfl) (by omega) (by omega) (by simp)
    · (try dsimp only [zS, zN, zH, zT]); try exact rfl
    apply al_wantedN
    · rfl
    · rfl
    · rfl
    · exact op_move_tmp (by rfl)
    · (try dsimp only [zS, zN, zH, zT]); try exact rfl
    apply al_wantedN
    · rfl
    · rfl
    · rfl
    · exact op_eqS (by rfl) (by rfl)
    · (try dsimp only [zS, zN, zH, zT]); try exact rfl
    apply al_stepN
    · exact op_pick_tt (by rfl) (val_tmp (by rfl))
    · rfl
    · (try dsimp only [zS, zN, zH, zT]); try exact rfl
    apply al_stepN
    · exact op_assign_tmp (by rfl)
    · rfl
    · (try dsimp only [zS, zN, zH, zT]); try exact rfl
    apply al_end
    · (try dsimp only [zS, zN, zH, zT]); try exact rfl
    refine then_normal ?_
    refine aw_ret ?_
    refine retPost1 rfl rfl ?_
    have h1 : b.length ≤ a.length := by omega
    exact ⟨by simp [begins, h1], rfl⟩
  · skip
    (try simp only [decide_eq_true_eq, decide_eq_false_iff_not, beq_iff_eq, beq_eq_false_iff_ne, Bool.not_eq_true', Bool.not_eq_false', bne_iff_ne, ne_eq, Decidable.not_not, bne_eq_false_iff_eq, List.length_map] at hg1)
    apply al_normT
    · (try dsimp only [zS, zN, zH, zT]); try exact rfl
    refine al_unwanted rfl rfl rfl rfl ?_
    apply al_normT
    · (try dsimp only [zS, zN, zH, zT]); try exact rfl
    refine al_unwanted rfl rfl rfl rfl ?_
    apply al_normT
    · (try dsimp only [zS, zN, zH, zT]); try exact rfl
    refine al_unwanted rfl rfl rfl rfl ?_
    apply al_normT
    · (try dsimp only [zS, zN, zH, zT]); try exact rfl
    refine al_unwanted rfl rfl rfl rfl ?_
    apply al_normT
    · (try dsimp only [zS, zN, zH, zT]); try exact rfl
    refine al_unwanted rfl rfl rfl rfl ?_
    apply al_normT
    · (try dsimp only [zS, zN, zH, zT]); try exact rfl
    refine al_unwanted rfl rfl rfl rfl ?_
    apply al_normT
    · (try dsimp only [zS, zN, zH, zT]); try exact rfl
    apply al_stepN
    · exact op_pick_ff (by rfl) (val_const (by rfl))
    · rfl
    · (try dsimp only [zS, zN, zH, zT]); try exact rfl
    apply al_stepN
    · exact op_assign_tmp (by rfl)
    · rfl
    · (try dsimp only [zS, zN, zH, zT]); try exact rfl
    apply al_end
    · (try dsimp only [zS, zN, zH, zT]); try exact rfl
    refine then_normal ?_
    refine aw_ret ?_
    refine retPost1 rfl rfl ?_
    have h1 : ¬ b.length ≤ a.length := by omega
    exact ⟨by simp [begins, h1, TF], rfl⟩
set_option maxRecDepth 100000 in
theorem sign_ok (H : HS) (n : Int) : ACalls Try.prog 19 [.d (I n)] H (Ret (.d (I (if (if n > -1 then n else -1) < 1 then (if n > -1 then n else -1) else 1))) H) := by
  refine acalls_of_aw Try.func19 rfl ?_
  refine aw_start (T' := [.d (I n), .un, .un, .un, .un, .un]) rfl ?_
  refine aw_seq ?_
  refine aw_region ?_
  apply al_stepN
  · exact op_assign_const (by rfl)
  · rfl
  · (try dsimp only [zS, zN, zH, zT]); try exact rfl
  apply al_end
  · (try dsimp only [zS, zN, zH, zT]); try exact rfl
  refine then_normal ?_
  refine aw_seq ?_
  refine aw_region ?_
  apply al_stepN
  · exact op_move_tmp (by rfl)
  · rfl
  · (try dsimp only [zS, zN, zH, zT]); try exact rfl
  apply al_stepN
  · exact op_max (by rfl) (by rfl)
  · rfl
  · (try dsimp only [zS, zN, zH, zT]); try exact rfl
  apply al_stepN
  · exact op_min (by rfl) (by rfl)
  · rfl
  · (try dsimp only [zS, zN, zH, zT]); try exact rfl
  apply al_stepN
  · exact op_assign_tmp (by rfl)
  · rfl
  · (try dsimp only [zS, zN, zH, zT]); try exact rfl
  apply al_end
  · (try dsimp only [zS, zN, zH, zT]); try exact rfl
  refine then_normal ?_
  refine aw_ret ?_
  refine retPost1 rfl rfl ?_
  exact ⟨rfl, rfl⟩
set_option maxRecDepth 100000 in
theorem key_ok (Hs : HS) (v : AV) (ps : List (List UInt8)) (hv : LL v 1 (ps.map S)) (hb : 2 * (ps.map List.length).sum + 2 * ps.length ≤ 140737488355328) : ACalls Try.prog 17 [v] Hs (Ret (.d (S (keyL ps))) Hs) := by
  refine ACalls.tidy1 ?_
  refine acalls_of_aw Try.func17 rfl ?_
  refine aw_start (T' := [v, .un, .un, .un, .un, .un, .un, .un, .un, .un, .un, .un, .un, .un, .un, .un, .un, .un]) rfl ?_
  refine aw_seq ?_
  refine aw_region ?_
  apply al_stepN
  · exact op_assign_const (by rfl)
  · rfl
  · (try dsimp only [zS, zN, zH, zT]); try exact rfl
  apply al_end
  · (try dsimp only [zS, zN, zH, zT]); try exact rfl
  refine then_normal ?_
  refine aw_seq ?_
  refine aw_region ?_
  apply al_stepN
  · exact op_assign_const (by rfl)
  · rfl
  · (try dsimp only [zS, zN, zH, zT]); try exact rfl
  apply al_end
  · (try dsimp only [zS, zN, zH, zT]); try exact rfl
  refine then_normal ?_
  refine aw_seq ?_
  refine aw_seq ?_
  refine aw_region ?_
  apply al_stepN
  · exact op_move_tmp (by rfl)
  · rfl
  · (try dsimp only [zS, zN, zH, zT]); try exact rfl
  apply al_stepN
  · exact op_lenL Try.underlying32 hv
  · rfl
  · (try dsimp only [zS, zN, zH, zT]); try exact rfl
  apply al_stepN
  · exact op_move_const (by rfl)
  · rfl
  · (try dsimp only [zS, zN, zH, zT]); try exact rfl
  apply al_end
  · (try dsimp only [zS, zN, zH, zT]); try exact rfl
  refine then_normal ?_
  refine aw_block ?_
  apply aw_loopF (fun n T H => ∃ (k : Nat) (v' : AV), T = [.un, .un, .un, v', .un, .un, v, .d (I (ps.map S).length), .d (I k), .un, .un, .un, .un, .un, .un, .un, .un, .un] ∧ k ≤ ps.length ∧ n = ps.length - k ∧ Bytes Hs none v' H (keyL (ps.take k))) (ps.length) [false, false, false, true, false, false, true, true, true, false, false, false, false, false, false, false, false, false]
  · (try dsimp only [maskT]); try exact rfl
  · rfl
  · exact ⟨0, _, rfl, Nat.zero_le _, rfl, Bytes.own (App.nil _) (HS.ok_none _ _)⟩
  rintro n T H ⟨k, v', rfl, hk, rfl, hB⟩
  obtain ⟨t', hApp, hHeir, hOk⟩ := hB.ex
  refine aw_seq ?_
  refine aw_region ?_
  apply al_stepN
  · exact op_ltI (by rfl) (by rfl)
  · rfl
  · (try dsimp only [zS, zN, zH, zT]); try exact rfl
  apply al_end
  · (try dsimp only [zS, zN, zH, zT]); try exact rfl
  refine then_normal ?_
  refine aw_seq ?_
  refine aw_cond rfl (fun hc1 => ?_) (fun hc1 => ?_)
  · skip
    (try simp only [decide_eq_true_eq, decide_eq_false_iff_not, beq_iff_eq, beq_eq_false_iff_ne, Bool.not_eq_true', Bool.not_eq_false', bne_iff_ne, ne_eq, Decidable.not_not, bne_eq_false_iff_eq, List.length_map] at hc1)
    (try simp only [List.length_map] at hc1)
    have hlt : k < ps.length := by omega
    obtain ⟨p, hcc⟩ : ∃ c, ps[k]? = some c := ⟨_, List.getElem?_eq_getElem hlt⟩
    have hL := keyL_len hcc
    refine aw_skip ?_
    refine then_normal ?_
    refine aw_seq ?_
    refine aw_block ?_
    refine aw_seq ?_
    refine aw_region ?_
    apply al_stepN
    · exact op_indexAddr Try.underlying32 Sz9 hv (by rfl) (by omega) (show (ps.map S)[((k : Nat) : Int).toNat]? = some (S p) by simp [hcc]) (by rfl)
    · rfl
    · (try dsimp only [zS, zN, zH, zT]); try exact rfl
    apply al_stepN
    · first | exact op_load_elt Try.underlying9 (by rfl) (by rfl) (by rfl) | exact op_load_ptr Try.underlying9 (by rfl) (by rfl) (by rfl) (by rfl)
    · rfl
    · (try dsimp only [zS, zN, zH, zT]); try exact rfl
    apply al_stepN
    · exact op_assign_tmp (by rfl)
    · rfl
    · (try dsimp only [zS, zN, zH, zT]); try exact rfl
    apply al_end
    · (try dsimp only [zS, zN, zH, zT]); try exact rfl
    refine then_normal ?_
    refine aw_region ?_
    apply al_stepN
    · exact op_move_tmp (by rfl)
    · rfl
    · (try dsimp only [zS, zN, zH, zT]); try exact rfl
    apply al_stepN
    · exact op_move_tmp (by rfl)
    · rfl
    · (try dsimp only [zS, zN, zH, zT]); try exact rfl
    apply al_stepN
    · exact op_callF Try.func12 (by rfl) (by rfl) (.tmp (by rfl) (.tmp (by rfl) .nil)) (text_ok _ t' _ _ p hApp hOk (by omega))
    · rfl
    · (try dsimp only [zS, zN, zH, zT]); try exact rfl
    apply al_stepN
    · exact op_assign_tmp (by rfl)
    · rfl
    · (try dsimp only [zS, zN, zH, zT]); try exact rfl
    apply al_end
    · (try dsimp only [zS, zN, zH, zT]); try exact rfl
    refine inBlock_normal (then_normal ?_)
    refine aw_region ?_
    apply al_stepN
    · first | exact op_add (by rfl) (by rfl) (wrap_i64 ⟨by omega, by omega⟩) | exact op_add (by rfl) (by rfl) (by rfl)
    · rfl
    · (try dsimp only [zS, zN, zH, zT]); try exact rfl
    apply al_stepN
    · exact op_move_tmp (by rfl)
    · rfl
    · (try dsimp only [zS, zN, zH, zT]); try exact rfl
    apply al_end
    · (try dsimp only [zS, zN, zH, zT]); try exact rfl
    apply again_to (ps.length - (k + 1)) [false, false, false, true, false, false, true, true, true, false, false, false, false, false, false, false, false, false]
    · (try dsimp only [maskT]); try exact rfl
    · rfl
    · omega
    exact ⟨k + 1, _, rfl, by omega, rfl, Bytes.grown' hHeir hOk (by simp [take_snoc hcc, keyL]) (by simp [keyL])⟩
  · skip
    (try simp only [decide_eq_true_eq, decide_eq_false_iff_not, beq_iff_eq, beq_eq_false_iff_ne, Bool.not_eq_true', Bool.not_eq_false', bne_iff_ne, ne_eq, Decidable.not_not, bne_eq_false_iff_eq, List.length_map] at hc1)
    (try simp only [List.length_map] at hc1)
    have hke : k = ps.length := by omega
    subst hke
    simp only [List.take_length] at hApp hOk
    refine aw_exit ?_
    refine then_exit (again_exit (inBlock_here (then_normal ?_)))
    refine aw_seq ?_
    refine aw_region ?_
    apply al_stepN
    · exact op_move_tmp (by rfl)
    · rfl
    · (try dsimp only [zS, zN, zH, zT]); try exact rfl
    apply al_stepN
    · exact op_string Try.underlying22 Try.underlying9 Try.underlying5 hApp.ll (by rfl)
    · rfl
    · (try dsimp only [zS, zN, zH, zT]); try exact rfl
    apply al_stepN
    · exact op_assign_tmp (by rfl)
    · rfl
    · (try dsimp only [zS, zN, zH, zT]); try exact rfl
    apply al_end
    · (try dsimp only [zS, zN, zH, zT]); try exact rfl
    refine then_normal ?_
    refine aw_ret ?_
    refine retPost1 rfl rfl ?_
    exact ⟨rfl, hHeir.ext⟩
set_option maxRecDepth 100000 in
theorem head_ok (Hs : HS) : ACalls Try.prog 11 [] Hs (Ret (.d (TF true)) Hs) := by
  refine ACalls.tidy1 ?_
  refine acalls_of_aw Try.func11 rfl ?_
  refine aw_start (T' := [.un, .un, .un, .un, .un, .un, .un, .un, .un]) rfl ?_
  refine aw_seq ?_
  refine aw_region ?_
  apply al_stepN
  · exact op_assign_const (by rfl)
  · rfl
  · (try dsimp only [zS, zN, zH, zT]); try exact rfl
  apply al_end
  · (try dsimp only [zS, zN, zH, zT]); try exact rfl
  refine then_normal ?_
  refine aw_seq ?_
  refine aw_region ?_
  apply al_stepN
  · exact op_lit Try.underlying32 ZS9 (.cons (by rfl) (.nil _)) (by rfl) (by simp [BY, S, I, TF, DV.cells]) (by simp [flat, BY, S, I, TF, DV.cells, DV.one]) (by decide)
  · rfl
  · (try dsimp only [zS, zN, zH, zT]); try exact rfl
  apply al_stepN
  · exact op_callF Try.func17 (by rfl) (by rfl) (.tmp (by rfl) .nil) (key_ok _ _ [[97]] (LL.own _ _ _) (by simp))
  · rfl
  · (try dsimp only [zS, zN, zH, zT]); try exact rfl
  apply al_stepN
  · exact op_eqS (by rfl) (by rfl)
  · rfl
  · (try dsimp only [zS, zN, zH, zT]); try exact rfl
  apply al_stepN
  · exact op_move_tmp (by rfl)
  · rfl
  · (try dsimp only [zS, zN, zH, zT]); try exact rfl
  refine al_split 4 rfl (fun hg1 => ?_) (fun hg1 => ?_)
  · skip
    apply al_normT
    · (try dsimp only [zS, zN, zH, zT]); try exact rfl
    apply al_wantedN
    · rfl
    · rfl
    · rfl
    · exact op_callF Try.func12 (by rfl) (by rfl) (.const (by rfl) (.const (by rfl) .nil)) (text_ok _ none _ [] [0] (App.nil _) (HS.ok_none _ _) (by simp))
    · (try dsimp only [zS, zN, zH, zT]); try exact rfl
    apply al_wantedN
    · rfl
    · rfl
    · rfl
    · exact op_string Try.underlying22 Try.underlying9 Try.underlying5 (by first | exact LL.d _ _ | exact LL.own _ _ _ | exact LL.nil _ | assumption) (by rfl)
    · (try dsimp only [zS, zN, zH, zT]); try exact rfl
    apply al_wantedN
    · rfl
    · rfl
    · rfl
    · exact op_eqS (by rfl) (by rfl)
    · (try dsimp only [zS, zN, zH, zT]); try exact rfl
    apply al_stepN
    · exact op_pick_tt (by rfl) (val_tmp (by rfl))
    · rfl
    · (try dsimp only [zS, zN, zH, zT]); try exact rfl
    apply al_stepN
    · exact op_assign_tmp (by rfl)
    · rfl
    · (try dsimp only [zS, zN, zH, zT]); try exact rfl
    apply al_end
    · (try dsimp only [zS, zN, zH, zT]); try exact rfl
    refine then_normal ?_
    refine aw_ret ?_
    refine retPost1 rfl rfl ?_
    exact ⟨rfl, (Ext.refl _).new _⟩
  · skip
    apply al_normT
    · (try dsimp only [zS, zN, zH, zT]); try exact rfl
    exact absurd hg1 (by decide)
end Go.Proofs.Ytlphmahlchgafaa
