/- What the law ValLong comes to. -/
import Derived.Test.YtadkehaagkjbhaaValU
import Derived.Test.YtadkehaagkjbhaaValMO
import Derived.Test.YtadkehaagkjbhaaValLong
import Derived.KernelRfl
namespace Go.Proofs.Ytadkehaagkjbhaa
open Go.AV Go.AV.Ord Go.AV.Oct Go.AV.Val
set_option linter.unusedVariables false
set_option linter.unusedSimpArgs false
set_option maxRecDepth 100000 in
theorem valLong_walk (Hs : HS) (a : Int) (b : Bool) : ACalls Try.prog 14 [.d (I a), .d (TF b)] Hs (fun av _ => av = .d (TF true)) := by
  obtain ⟨q, hq, hand⟩ := and255 a
  refine acalls_of_aw Try.func14 rfl ?_
  refine aw_start (T' := ((.d (I a)) :: (.d (TF b)) :: .un :: .un :: .un :: .un :: .un :: .un :: .un :: .un :: .un :: .un :: .un :: .un :: .un :: .un :: .un :: .un :: .un :: .un :: .un :: .un :: .un :: .un :: .un :: .un :: .un :: .un :: .un :: .un :: .un :: .un :: .un :: .un :: .un :: .un :: .un :: .un :: .un :: .un :: .un :: .un :: .un :: .un :: .un :: .un :: .un :: .un :: .un :: .un :: .un :: .un :: .un :: .un :: .un :: .un :: .un :: .un :: .un :: .un :: .un :: .un :: .un :: .un :: [])) rfl ?_
  refine aw_seq ?_
  refine aw_region ?_
  apply al_stepN
  · exact op_assign_const (by rfl)
  · rfl
  · (try dsimp only [zS, zN, zH, zT]); try exact rfl
  apply al_end
  · (try dsimp only [zS, zN, zH, zT]); try exact rfl
  refine then_normal ?_
  refine aw_seq ?_
  refine aw_seq ?_
  refine aw_region ?_
  apply al_stepN
  · exact op_callF Try.func40 (by rfl) (by rfl) .nil (vhead_ok _)
  · rfl
  · (try dsimp only [zS, zN, zH, zT]); try exact rfl
  apply al_stepN
  · exact op_not (by rfl)
  · rfl
  · (try dsimp only [zS, zN, zH, zT]); try exact rfl
  apply al_end
  · (try dsimp only [zS, zN, zH, zT]); try exact rfl
  refine then_normal ?_
  refine aw_cond rfl (fun hc1 => ?_) (fun hc1 => ?_)
  · skip
    (try simp only [decide_eq_true_eq, decide_eq_false_iff_not, beq_iff_eq, beq_eq_false_iff_ne, Bool.not_eq_true', Bool.not_eq_false', bne_iff_ne, ne_eq, Decidable.not_not, bne_eq_false_iff_eq, List.length_map] at hc1)
    exact absurd hc1 (by decide)
  · skip
    (try simp only [decide_eq_true_eq, decide_eq_false_iff_not, beq_iff_eq, beq_eq_false_iff_ne, Bool.not_eq_true', Bool.not_eq_false', bne_iff_ne, ne_eq, Decidable.not_not, bne_eq_false_iff_eq, List.length_map] at hc1)
    refine aw_skip ?_
    refine then_normal ?_
    refine aw_seq ?_
    refine aw_region ?_
    apply al_stepN
    · exact op_move_tmp (by rfl)
    · rfl
    · (try dsimp only [zS, zN, zH, zT]); try exact rfl
    apply al_stepN
    · exact op_and (by rfl) (by rfl) hand
    · rfl
    · (try dsimp only [zS, zN, zH, zT]); try exact rfl
    apply al_stepN
    · exact op_add (by rfl) (by rfl) (show IntKind.i64.wrap (4000 + (q : Int)) = (((4000 + q) : Nat) : Int) by rw [wrap_i64 ⟨by omega, by omega⟩]; omega)
    · rfl
    · (try dsimp only [zS, zN, zH, zT]); try exact rfl
    apply al_stepN
    · exact op_assign_tmp (by rfl)
    · rfl
    · (try dsimp only [zS, zN, zH, zT]); try exact rfl
    apply al_end
    · (try dsimp only [zS, zN, zH, zT]); try exact rfl
    refine then_normal ?_
    refine aw_seq ?_
    refine aw_region ?_
    apply al_stepN
    · exact op_move_tmp (by rfl)
    · rfl
    · (try dsimp only [zS, zN, zH, zT]); try exact rfl
    apply al_stepN
    · exact op_makeBytes (4000 + q) Try.underlying86 Inf5 (by rfl) (by rfl) (by omega)
    · rfl
    · (try dsimp only [zS, zN, zH, zT]); try exact rfl
    apply al_stepN
    · exact op_string Try.underlying86 Try.underlying9 Try.underlying5 (by first | exact LL.d _ _ | exact LL.own _ _ _ | exact LL.nil _ | assumption) (by rfl)
    · rfl
    · (try dsimp only [zS, zN, zH, zT]); try exact rfl
    apply al_stepN
    · exact op_callF Try.func50 (by rfl) (by rfl) (.tmp (by rfl) .nil) (ofText_ok _ (zerosT (4000 + q)))
    · rfl
    · (try dsimp only [zS, zN, zH, zT]); try exact rfl
    apply al_stepN
    · exact op_alloc (Zr37) (by rfl)
    · rfl
    · (try dsimp only [zS, zN, zH, zT]); try exact rfl
    apply al_stepN
    · exact op_storeV (b' := ⟨37, (vC (ofText (zerosT (4000 + q)))).map .d, false⟩) (ofText (zerosT (4000 + q))) Sz37 (by rfl) push_at (by rfl) (Nat.le_of_ble_eq_true rfl) (by rfl) (by rw [vC_eq]; rfl)
    · rfl
    · (try dsimp only [zS, zN, zH, zT]); try exact rfl
    apply al_end
    · (try dsimp only [zS, zN, zH, zT]); try exact rfl
    refine then_normal ?_
    refine aw_seq ?_
    refine aw_region ?_
    apply al_stepN
    · exact op_move_tmp (by rfl)
    · rfl
    · (try dsimp only [zS, zN, zH, zT]); try exact rfl
    apply al_stepN
    · exact op_add (by rfl) (by rfl) (show IntKind.i64.wrap (4 + (((4000 + q) : Nat) : Int)) = ((4 + (4000 + q) : Nat) : Int) by rw [wrap_i64 ⟨by omega, by omega⟩]; omega)
    · rfl
    · (try dsimp only [zS, zN, zH, zT]); try exact rfl
    apply al_stepN
    · exact op_assign_tmp (by rfl)
    · rfl
    · (try dsimp only [zS, zN, zH, zT]); try exact rfl
    apply al_end
    · (try dsimp only [zS, zN, zH, zT]); try exact rfl
    refine then_normal ?_
    apply aw_cutF (fun T H => ∃ (id : Nat) (sz : Nat), T = (.un :: .un :: .un :: .un :: .un :: (.ptr id 0) :: (.d (I (sz : Int))) :: .un :: .un :: .un :: .un :: .un :: .un :: .un :: .un :: .un :: .un :: .un :: .un :: .un :: .un :: .un :: .un :: .un :: .un :: .un :: .un :: .un :: .un :: .un :: .un :: .un :: .un :: .un :: .un :: .un :: .un :: .un :: .un :: .un :: .un :: .un :: .un :: .un :: .un :: .un :: .un :: .un :: .un :: .un :: .un :: .un :: .un :: .un :: .un :: .un :: .un :: .un :: .un :: .un :: .un :: .un :: .un :: .un :: []) ∧ H.blks[id]? = some ⟨37, (vC (longV b (4000 + q))).map .d, false⟩ ∧ sz = 4 + (4000 + q) + (if b then 6 else 0))
    · skip
      refine aw_seq ?_
      refine aw_region ?_
      apply al_stepN
      · exact op_move_tmp (by rfl)
      · rfl
      · (try dsimp only [zS, zN, zH, zT]); try exact rfl
      apply al_end
      · (try dsimp only [zS, zN, zH, zT]); try exact rfl
      refine then_normal ?_
      refine aw_cond rfl (fun hc2 => ?_) (fun hc2 => ?_)
      · skip
        (try simp only [decide_eq_true_eq, decide_eq_false_iff_not, beq_iff_eq, beq_eq_false_iff_ne, Bool.not_eq_true', Bool.not_eq_false', bne_iff_ne, ne_eq, Decidable.not_not, bne_eq_false_iff_eq, List.length_map] at hc2)
        have hbt : b = true := hc2
        subst hbt
        refine aw_seq ?_
        refine aw_region ?_
        apply al_stepN
        · exact op_load_ptrsD (vC (ofText (zerosT (4000 + q)))) Try.underlying37 (by rfl) Sz37 (by rfl) (setB_at push_at) (by show 0 + 6 ≤ ((vC (ofText (zerosT (4000 + q)))).map AV.d).length; rw [List.length_map, vC_len]; exact Nat.le_refl _) (by show (((vC (ofText (zerosT (4000 + q)))).map AV.d).drop 0).take 6 = _; rw [List.drop_zero, List.take_of_length_le (by rw [List.length_map, vC_len]; exact Nat.le_refl _)]) (vC_one (ofText (zerosT (4000 + q))))
        · rfl
        · (try dsimp only [zS, zN, zH, zT]); try exact rfl
        apply al_stepN
        · exact op_buildD (pl := [(0, 1), (1, 6)]) (fC (longF (4000 + q))) Try.underlying89 Zr89 (by kernel_rfl) (by rfl) (by rfl) (fill_field [97] (ofText (zerosT (4000 + q)))) (fC_one _)
        · rfl
        · (try dsimp only [zS, zN, zH, zT]); try exact rfl
        apply al_stepN
        · exact op_lit Try.underlying35 ZS89 (.cons (y := fD (longF (4000 + q))) (by rfl) (.nil _)) (by rfl) (lit_f _) (lit_f1 _) (by decide)
        · rfl
        · (try dsimp only [zS, zN, zH, zT]); try exact rfl
        apply al_stepN
        · exact op_callF Try.func54 (by rfl) (by rfl) (.tmp (by rfl) .nil) (ofMap_ok _ _ [longF (4000 + q)] (LL.own _ _ _) (by simp))
        · rfl
        · (try dsimp only [zS, zN, zH, zT]); try exact rfl
        apply al_stepN
        · exact op_storeVV (ofText (zerosT (4000 + q))) (ofMapV [longF (4000 + q)]) Sz37 (by rfl) (setB_at push_at) (by rfl)
        · rfl
        · (try dsimp only [zS, zN, zH, zT]); try exact rfl
        apply al_end
        · (try dsimp only [zS, zN, zH, zT]); try exact rfl
        refine then_normal ?_
        refine aw_region ?_
        apply al_stepN
        · exact op_move_tmp (by rfl)
        · rfl
        · (try dsimp only [zS, zN, zH, zT]); try exact rfl
        apply al_stepN
        · exact op_add (by rfl) (by rfl) (show IntKind.i64.wrap (((4 + (4000 + q) : Nat) : Int) + 6) = ((4 + (4000 + q) + 6 : Nat) : Int) by rw [wrap_i64 ⟨by omega, by omega⟩]; omega)
        · rfl
        · (try dsimp only [zS, zN, zH, zT]); try exact rfl
        apply al_stepN
        · exact op_assign_tmp (by rfl)
        · rfl
        · (try dsimp only [zS, zN, zH, zT]); try exact rfl
        apply al_end
        · (try dsimp only [zS, zN, zH, zT]); try exact rfl
        apply cut_to (false :: false :: false :: false :: false :: true :: true :: false :: false :: false :: false :: false :: false :: false :: false :: false :: false :: false :: false :: false :: false :: false :: false :: false :: false :: false :: false :: false :: false :: false :: false :: false :: false :: false :: false :: false :: false :: false :: false :: false :: false :: false :: false :: false :: false :: false :: false :: false :: false :: false :: false :: false :: false :: false :: false :: false :: false :: false :: false :: false :: false :: false :: false :: false :: [])
        · (try dsimp only [maskT]); try exact rfl
        · rfl
        exact ⟨_, 4 + (4000 + q) + 6, rfl, setB_at (setB_at push_at), rfl⟩
      · skip
        (try simp only [decide_eq_true_eq, decide_eq_false_iff_not, beq_iff_eq, beq_eq_false_iff_ne, Bool.not_eq_true', Bool.not_eq_false', bne_iff_ne, ne_eq, Decidable.not_not, bne_eq_false_iff_eq, List.length_map] at hc2)
        have hbt : b = false := by simpa using hc2
        subst hbt
        refine aw_skip ?_
        apply cut_to (false :: false :: false :: false :: false :: true :: true :: false :: false :: false :: false :: false :: false :: false :: false :: false :: false :: false :: false :: false :: false :: false :: false :: false :: false :: false :: false :: false :: false :: false :: false :: false :: false :: false :: false :: false :: false :: false :: false :: false :: false :: false :: false :: false :: false :: false :: false :: false :: false :: false :: false :: false :: false :: false :: false :: false :: false :: false :: false :: false :: false :: false :: false :: false :: [])
        · (try dsimp only [maskT]); try exact rfl
        · rfl
        exact ⟨_, 4 + (4000 + q), rfl, setB_at push_at, rfl⟩
    rintro T H ⟨id, sz, rfl, hb3, hsz⟩
    have hlen := len_long (b := b) (m := (4000 + q)) (by omega) (by omega)
    obtain ⟨bs, e, hO⟩ : ∃ bs e, encO (longV b (4000 + q)) = (bs, e) := ⟨_, _, rfl⟩
    refine aw_seq ?_
    refine aw_region ?_
    apply al_stepN
    · exact op_load_ptrsD (vC (longV b (4000 + q))) Try.underlying37 (by rfl) Sz37 (by rfl) hb3 (by show 0 + 6 ≤ ((vC (longV b (4000 + q))).map AV.d).length; rw [List.length_map, vC_len]; exact Nat.le_refl _) (by show (((vC (longV b (4000 + q))).map AV.d).drop 0).take 6 = _; rw [List.drop_zero, List.take_of_length_le (by rw [List.length_map, vC_len]; exact Nat.le_refl _)]) (vC_one (longV b (4000 + q)))
    · rfl
    · (try dsimp only [zS, zN, zH, zT]); try exact rfl
    apply al_stepN
    · exact op_callF Try.func43 (by rfl) (by rfl) (.tmp (by rfl) .nil) (venc_at hO (small_long b (4000 + q)) (wf_long b (4000 + q)) (by rw [hlen]; split <;> omega))
    · rfl
    · (try dsimp only [zS, zN, zH, zT]); try exact rfl
    apply al_stepN
    · exact op_move_tmp (by rfl)
    · rfl
    · (try dsimp only [zS, zN, zH, zT]); try exact rfl
    apply al_stepN
    · exact op_extract (by rfl) (by rfl)
    · rfl
    · (try dsimp only [zS, zN, zH, zT]); try exact rfl
    apply al_stepN
    · exact op_extract (by rfl) (by rfl)
    · rfl
    · (try dsimp only [zS, zN, zH, zT]); try exact rfl
    apply al_stepN
    · exact op_assign_tmp (by rfl)
    · rfl
    · (try dsimp only [zS, zN, zH, zT]); try exact rfl
    apply al_stepN
    · exact op_assign_tmp (by rfl)
    · rfl
    · (try dsimp only [zS, zN, zH, zT]); try exact rfl
    apply al_end
    · (try dsimp only [zS, zN, zH, zT]); try exact rfl
    refine then_normal ?_
    refine aw_seq ?_
    refine aw_seq ?_
    refine aw_region ?_
    apply al_stepN
    · exact op_move_tmp (by rfl)
    · rfl
    · (try dsimp only [zS, zN, zH, zT]); try exact rfl
    apply al_stepN
    · exact op_gtI (by rfl) (by rfl)
    · rfl
    · (try dsimp only [zS, zN, zH, zT]); try exact rfl
    apply al_end
    · (try dsimp only [zS, zN, zH, zT]); try exact rfl
    refine then_normal ?_
    refine aw_cond rfl (fun hc3 => ?_) (fun hc3 => ?_)
    · skip
      (try simp only [decide_eq_true_eq, decide_eq_false_iff_not, beq_iff_eq, beq_eq_false_iff_ne, Bool.not_eq_true', Bool.not_eq_false', bne_iff_ne, ne_eq, Decidable.not_not, bne_eq_false_iff_eq, List.length_map] at hc3)
      have hgt : 4096 < (encV (longV b (4000 + q))).length := by rw [hlen, ← hsz]; omega
      obtain ⟨h1, h2⟩ := enc_long hO hgt
      subst h1 h2
      refine aw_seq ?_
      refine aw_region ?_
      apply al_stepN
      · exact op_move_tmp (by rfl)
      · rfl
      · (try dsimp only [zS, zN, zH, zT]); try exact rfl
      apply al_stepN
      · exact op_eqI (by rfl) (by rfl)
      · rfl
      · (try dsimp only [zS, zN, zH, zT]); try exact rfl
      apply al_stepN
      · exact op_move_tmp (by rfl)
      · rfl
      · (try dsimp only [zS, zN, zH, zT]); try exact rfl
      refine al_split 38 rfl (fun hg4 => ?_) (fun hg4 => ?_)
      · skip
        (try simp only [decide_eq_true_eq, decide_eq_false_iff_not, beq_iff_eq, beq_eq_false_iff_ne, Bool.not_eq_true', Bool.not_eq_false', bne_iff_ne, ne_eq, Decidable.not_not, bne_eq_false_iff_eq, List.length_map] at hg4)
        apply al_normT
        · (try dsimp only [zS, zN, zH, zT]); try exact rfl
        apply al_wantedN
        · rfl
        · rfl
        · rfl
        · exact op_move_tmp (by rfl)
        · (try dsimp only [zS, zN, zH, zT]); try exact rfl
        apply al_wantedN
        · rfl
        · rfl
        · rfl
        · exact op_eqS (by rfl) (by rfl)
        · (try dsimp only [zS, zN, zH, zT]); try exact rfl
        apply al_stepN
        · exact op_pick_tt (by rfl) (val_tmp (by rfl))
        · rfl
        · (try dsimp only [zS, zN, zH, zT]); try exact rfl
        apply al_stepN
        · exact op_assign_tmp (by rfl)
        · rfl
        · (try dsimp only [zS, zN, zH, zT]); try exact rfl
        apply al_end
        · (try dsimp only [zS, zN, zH, zT]); try exact rfl
        refine then_normal ?_
        refine aw_ret ?_
        refine then_ret ?_
        refine retPost1 rfl rfl ?_
        first | exact rfl | (rw [hself]; rfl) | (simp [TF]; done) | (simp [TF, hself]; done)
      · skip
        (try simp only [decide_eq_true_eq, decide_eq_false_iff_not, beq_iff_eq, beq_eq_false_iff_ne, Bool.not_eq_true', Bool.not_eq_false', bne_iff_ne, ne_eq, Decidable.not_not, bne_eq_false_iff_eq, List.length_map] at hg4)
        apply al_normT
        · (try dsimp only [zS, zN, zH, zT]); try exact rfl
        all_goals (first | exact absurd rfl hg4 | simp at hg4)
    · skip
      (try simp only [decide_eq_true_eq, decide_eq_false_iff_not, beq_iff_eq, beq_eq_false_iff_ne, Bool.not_eq_true', Bool.not_eq_false', bne_iff_ne, ne_eq, Decidable.not_not, bne_eq_false_iff_eq, List.length_map] at hc3)
      have hle : (encV (longV b (4000 + q))).length ≤ 4096 := by rw [hlen, ← hsz]; omega
      obtain ⟨h1, h2⟩ := enc_short hO hle
      subst h1 h2
      have hD := decV_enc (right_long b (4000 + q)) (wf_long b (4000 + q)) hle
      have hself := (cmp_zero (right_long b (4000 + q)) (right_long b (4000 + q)) (wf_long b (4000 + q)) (wf_long b (4000 + q))).2 rfl
      refine aw_skip ?_
      refine then_normal ?_
      refine aw_seq ?_
      refine aw_region ?_
      apply al_stepN
      · exact op_move_tmp (by rfl)
      · rfl
      · (try dsimp only [zS, zN, zH, zT]); try exact rfl
      apply al_stepN
      · exact op_callF Try.func44 (by rfl) (by rfl) (.tmp (by rfl) .nil) (vdec_at hD)
      · rfl
      · (try dsimp only [zS, zN, zH, zT]); try exact rfl
      apply al_stepN
      · exact op_move_tmp (by rfl)
      · rfl
      · (try dsimp only [zS, zN, zH, zT]); try exact rfl
      apply al_stepN
      · exact op_extract (by rfl) (by rfl)
      · rfl
      · (try dsimp only [zS, zN, zH, zT]); try exact rfl
      apply al_stepN
      · exact op_extract (by rfl) (by rfl)
      · rfl
      · (try dsimp only [zS, zN, zH, zT]); try exact rfl
      apply al_stepN
      · exact op_alloc (Zr37) (by rfl)
      · rfl
      · (try dsimp only [zS, zN, zH, zT]); try exact rfl
      apply al_stepN
      · exact op_storeV (b' := ⟨37, (vC (longV b (4000 + q))).map .d, false⟩) (longV b (4000 + q)) Sz37 (by rfl) push_at (by rfl) (Nat.le_of_ble_eq_true rfl) (by rfl) (by rw [vC_eq]; rfl)
      · rfl
      · (try dsimp only [zS, zN, zH, zT]); try exact rfl
      apply al_stepN
      · exact op_assign_tmp (by rfl)
      · rfl
      · (try dsimp only [zS, zN, zH, zT]); try exact rfl
      apply al_end
      · (try dsimp only [zS, zN, zH, zT]); try exact rfl
      refine then_normal ?_
      refine aw_seq ?_
      refine aw_region ?_
      apply al_stepN
      · exact op_move_tmp (by rfl)
      · rfl
      · (try dsimp only [zS, zN, zH, zT]); try exact rfl
      apply al_stepN
      · exact op_eqI (by rfl) (by rfl)
      · rfl
      · (try dsimp only [zS, zN, zH, zT]); try exact rfl
      apply al_stepN
      · exact op_move_tmp (by rfl)
      · rfl
      · (try dsimp only [zS, zN, zH, zT]); try exact rfl
      refine al_split 49 rfl (fun hg5 => ?_) (fun hg5 => ?_)
      · skip
        (try simp only [decide_eq_true_eq, decide_eq_false_iff_not, beq_iff_eq, beq_eq_false_iff_ne, Bool.not_eq_true', Bool.not_eq_false', bne_iff_ne, ne_eq, Decidable.not_not, bne_eq_false_iff_eq, List.length_map] at hg5)
        apply al_normT
        · (try dsimp only [zS, zN, zH, zT]); try exact rfl
        apply al_wantedN
        · rfl
        · rfl
        · rfl
        · exact op_move_tmp (by rfl)
        · (try dsimp only [zS, zN, zH, zT]); try exact rfl
        apply al_wantedN
        · rfl
        · rfl
        · rfl
        · exact op_lenS Try.underlying9 (by rfl)
        · (try dsimp only [zS, zN, zH, zT]); try exact rfl
        apply al_wantedN
        · rfl
        · rfl
        · rfl
        · exact op_move_tmp (by rfl)
        · (try dsimp only [zS, zN, zH, zT]); try exact rfl
        apply al_wantedN
        · rfl
        · rfl
        · rfl
        · exact op_eqI (by rfl) (by rfl)
        · (try dsimp only [zS, zN, zH, zT]); try exact rfl
        apply al_stepN
        · exact op_pick_tt (by rfl) (val_tmp (by rfl))
        · rfl
        · (try dsimp only [zS, zN, zH, zT]); try exact rfl
        apply al_stepN
        · exact op_move_tmp (by rfl)
        · rfl
        · (try dsimp only [zS, zN, zH, zT]); try exact rfl
        refine al_split 55 rfl (fun hg6 => ?_) (fun hg6 => ?_)
        · skip
          (try simp only [decide_eq_true_eq, decide_eq_false_iff_not, beq_iff_eq, beq_eq_false_iff_ne, Bool.not_eq_true', Bool.not_eq_false', bne_iff_ne, ne_eq, Decidable.not_not, bne_eq_false_iff_eq, List.length_map] at hg6)
          apply al_normT
          · (try dsimp only [zS, zN, zH, zT]); try exact rfl
          apply al_wantedN
          · rfl
          · rfl
          · rfl
          · exact op_move_tmp (by rfl)
          · (try dsimp only [zS, zN, zH, zT]); try exact rfl
          apply al_wantedN
          · rfl
          · rfl
          · rfl
          · exact op_eqI (by rfl) (by rfl)
          · (try dsimp only [zS, zN, zH, zT]); try exact rfl
          apply al_stepN
          · exact op_pick_tt (by rfl) (val_tmp (by rfl))
          · rfl
          · (try dsimp only [zS, zN, zH, zT]); try exact rfl
          apply al_stepN
          · exact op_move_tmp (by rfl)
          · rfl
          · (try dsimp only [zS, zN, zH, zT]); try exact rfl
          refine al_split 59 rfl (fun hg7 => ?_) (fun hg7 => ?_)
          · skip
            (try simp only [decide_eq_true_eq, decide_eq_false_iff_not, beq_iff_eq, beq_eq_false_iff_ne, Bool.not_eq_true', Bool.not_eq_false', bne_iff_ne, ne_eq, Decidable.not_not, bne_eq_false_iff_eq, List.length_map] at hg7)
            apply al_normT
            · (try dsimp only [zS, zN, zH, zT]); try exact rfl
            apply al_wantedN
            · rfl
            · rfl
            · rfl
            · exact op_load_ptrsD (vC (longV b (4000 + q))) Try.underlying37 (by rfl) Sz37 (by rfl) (setB_at push_at) (by show 0 + 6 ≤ ((vC (longV b (4000 + q))).map AV.d).length; rw [List.length_map, vC_len]; exact Nat.le_refl _) (by show (((vC (longV b (4000 + q))).map AV.d).drop 0).take 6 = _; rw [List.drop_zero, List.take_of_length_le (by rw [List.length_map, vC_len]; exact Nat.le_refl _)]) (vC_one (longV b (4000 + q)))
            · (try dsimp only [zS, zN, zH, zT]); try exact rfl
            apply al_wantedN
            · rfl
            · rfl
            · rfl
            · exact op_load_ptrsD (vC (longV b (4000 + q))) Try.underlying37 (by rfl) Sz37 (by rfl) (by rw [setB_ne (by have := lt_nb hb3; omega)]; exact push_ne hb3) (by show 0 + 6 ≤ ((vC (longV b (4000 + q))).map AV.d).length; rw [List.length_map, vC_len]; exact Nat.le_refl _) (by show (((vC (longV b (4000 + q))).map AV.d).drop 0).take 6 = _; rw [List.drop_zero, List.take_of_length_le (by rw [List.length_map, vC_len]; exact Nat.le_refl _)]) (vC_one (longV b (4000 + q)))
            · (try dsimp only [zS, zN, zH, zT]); try exact rfl
            apply al_wantedN
            · rfl
            · rfl
            · rfl
            · exact op_callF Try.func53 (by rfl) (by rfl) (.tmp (by rfl) (.tmp (by rfl) .nil)) (vsame_ok _ (longV b (4000 + q)) (longV b (4000 + q)) (small_long b (4000 + q)) (small_long b (4000 + q)))
            · (try dsimp only [zS, zN, zH, zT]); try exact rfl
            apply al_stepN
            · exact op_pick_tt (by rfl) (val_tmp (by rfl))
            · rfl
            · (try dsimp only [zS, zN, zH, zT]); try exact rfl
            apply al_stepN
            · exact op_assign_tmp (by rfl)
            · rfl
            · (try dsimp only [zS, zN, zH, zT]); try exact rfl
            apply al_end
            · (try dsimp only [zS, zN, zH, zT]); try exact rfl
            refine then_normal ?_
            refine aw_ret ?_
            refine retPost1 rfl rfl ?_
            first | exact rfl | (rw [hself]; rfl) | (simp [TF]; done) | (simp [TF, hself]; done)
          · skip
            (try simp only [decide_eq_true_eq, decide_eq_false_iff_not, beq_iff_eq, beq_eq_false_iff_ne, Bool.not_eq_true', Bool.not_eq_false', bne_iff_ne, ne_eq, Decidable.not_not, bne_eq_false_iff_eq, List.length_map] at hg7)
            apply al_normT
            · (try dsimp only [zS, zN, zH, zT]); try exact rfl
            all_goals (first | exact absurd rfl hg7 | simp at hg7)
        · skip
          (try simp only [decide_eq_true_eq, decide_eq_false_iff_not, beq_iff_eq, beq_eq_false_iff_ne, Bool.not_eq_true', Bool.not_eq_false', bne_iff_ne, ne_eq, Decidable.not_not, bne_eq_false_iff_eq, List.length_map] at hg6)
          apply al_normT
          · (try dsimp only [zS, zN, zH, zT]); try exact rfl
          exact absurd (by rw [hlen, hsz]) hg6
      · skip
        (try simp only [decide_eq_true_eq, decide_eq_false_iff_not, beq_iff_eq, beq_eq_false_iff_ne, Bool.not_eq_true', Bool.not_eq_false', bne_iff_ne, ne_eq, Decidable.not_not, bne_eq_false_iff_eq, List.length_map] at hg5)
        apply al_normT
        · (try dsimp only [zS, zN, zH, zT]); try exact rfl
        all_goals (first | exact absurd rfl hg5 | simp at hg5)
end Go.Proofs.Ytadkehaagkjbhaa
