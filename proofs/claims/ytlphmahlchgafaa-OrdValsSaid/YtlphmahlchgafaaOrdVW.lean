/- What a value as bytes that have its order comes to. -/
import Derived.Test.YtlphmahlchgafaaOrdW
import Derived.Test.YtlphmahlchgafaaValOrd2
import Derived.KernelRfl
namespace Go.Proofs.Ytlphmahlchgafaa
open Go.AV Go.AV.Ord Go.AV.Oct Go.AV.Val
set_option linter.unusedVariables false
set_option linter.unusedSimpArgs false
set_option maxRecDepth 100000 in
theorem int_ok (Hs : HS) (t : Option Nat) (v : AV) (bs : List UInt8) (x : Int) (hv : App v t 1 (bs.map BY)) (hok : Hs.ok t bs.length) (hx : i64 x) (hb : bs.length + 8 ≤ 140737488355328) : ACalls Try.prog 14 [v, .d (I x)] Hs (Ret (ownB Hs t (bs ++ encI x)) (upB Hs t (bs ++ encI x))) := by
  refine acalls_of_aw Try.func14 rfl ?_
  refine aw_start (T' := [v, .d (I x), .un, .un, .un, .un, .un, .un, .un, .un, .un, .un, .un, .un, .un, .un, .un, .un, .un, .un, .un, .un, .un]) rfl ?_
  refine aw_seq ?_
  refine aw_region ?_
  apply al_stepN
  · exact op_assign_const (by rfl)
  · rfl
  · (try dsimp only [zS, zN, zH, zT]); try exact rfl
  apply al_end
  · (try dsimp only [zS, zN, zH, zT]); try exact rfl
  refine then_normal ?_
  refine aw_seq ?_
  refine aw_region ?_
  apply al_stepN
  · exact op_move_tmp (by rfl)
  · rfl
  · (try dsimp only [zS, zN, zH, zT]); try exact rfl
  apply al_stepN
  · first | exact op_convI (by rw [Try.underlying2]; rfl) Try.underlying55 (by rfl) (wrap_u64 ⟨by omega, by omega⟩) | exact op_convI (by rw [Try.underlying2]; rfl) Try.underlying55 (by rfl) (by rfl)
  · rfl
  · (try dsimp only [zS, zN, zH, zT]); try exact rfl
  apply al_stepN
  · exact op_xor (by rfl) (by rfl) (xor_off hx)
  · rfl
  · (try dsimp only [zS, zN, zH, zT]); try exact rfl
  apply al_stepN
  · exact op_assign_tmp (by rfl)
  · rfl
  · (try dsimp only [zS, zN, zH, zT]); try exact rfl
  apply al_end
  · (try dsimp only [zS, zN, zH, zT]); try exact rfl
  refine then_normal ?_
  refine aw_seq ?_
  refine aw_seq ?_
  refine aw_region ?_
  apply al_stepN
  · exact op_assign_const (by rfl)
  · rfl
  · (try dsimp only [zS, zN, zH, zT]); try exact rfl
  apply al_end
  · (try dsimp only [zS, zN, zH, zT]); try exact rfl
  refine then_normal ?_
  refine aw_block ?_
  apply aw_loopF (fun n T H => ∃ (j : Nat) (v' : AV), T = [v', .un, .un, .un, .un, .d (.v (.int .u64 (off x))), .d (I (7 - (j : Int))), .un, .un, .un, .un, .un, .un, .un, .un, .un, .un, .un, .un, .un, .un, .un, .un] ∧ j ≤ 8 ∧ n = 8 - j ∧ Grew Hs t v bs v' H ((encI x).take j)) (8) [true, false, false, false, false, true, true, false, false, false, false, false, false, false, false, false, false, false, false, false, false, false, false]
  · (try dsimp only [maskT]); try exact rfl
  · rfl
  · exact ⟨0, v, rfl, by omega, rfl, Grew.none _ _ _ _⟩
  rintro n T H ⟨j, v', rfl, hj, rfl, hG⟩
  obtain ⟨t', hApp, hHeir, hOk⟩ := hG.use hv hok
  have hL := encI_len x
  have hT : ((encI x).take j).length = j := by simp; omega
  refine aw_seq ?_
  refine aw_seq ?_
  refine aw_region ?_
  apply al_stepN
  · exact op_move_tmp (by rfl)
  · rfl
  · (try dsimp only [zS, zN, zH, zT]); try exact rfl
  apply al_stepN
  · exact op_geI (by rfl) (by rfl)
  · rfl
  · (try dsimp only [zS, zN, zH, zT]); try exact rfl
  apply al_end
  · (try dsimp only [zS, zN, zH, zT]); try exact rfl
  refine then_normal ?_
  refine aw_cond rfl (fun hc1 => ?_) (fun hc1 => ?_)
  · skip
    (try simp only [decide_eq_true_eq, decide_eq_false_iff_not, beq_iff_eq, beq_eq_false_iff_ne, Bool.not_eq_true', Bool.not_eq_false', bne_iff_ne, ne_eq, Decidable.not_not, bne_eq_false_iff_eq, List.length_map] at hc1)
    have hlt : j < 8 := by omega
    refine aw_skip ?_
    refine then_normal ?_
    refine aw_seq ?_
    refine aw_block ?_
    refine aw_region ?_
    apply al_stepN
    · exact op_move_tmp (by rfl)
    · rfl
    · (try dsimp only [zS, zN, zH, zT]); try exact rfl
    apply al_stepN
    · exact op_move_tmp (by rfl)
    · rfl
    · (try dsimp only [zS, zN, zH, zT]); try exact rfl
    apply al_stepN
    · exact op_move_tmp (by rfl)
    · rfl
    · (try dsimp only [zS, zN, zH, zT]); try exact rfl
    apply al_stepN
    · first | exact op_mul (by rfl) (by rfl) (wrap_i64 ⟨by omega, by omega⟩) | exact op_mul (by rfl) (by rfl) (by rfl)
    · rfl
    · (try dsimp only [zS, zN, zH, zT]); try exact rfl
    apply al_stepN
    · exact op_shr (by rfl) (by rfl) (by omega) (shr_off _ hlt)
    · rfl
    · (try dsimp only [zS, zN, zH, zT]); try exact rfl
    apply al_stepN
    · exact op_convI (by rw [Try.underlying55]; rfl) Try.underlying5 (by rfl) (conv_byte _)
    · rfl
    · (try dsimp only [zS, zN, zH, zT]); try exact rfl
    apply al_stepN
    · exact op_lit Try.underlying22 ZS5 (.cons (by rfl) (.nil _)) (by rfl) (by simp [BY, S, I, TF, DV.cells]) (by simp [flat, BY, S, I, TF, DV.cells, DV.one]) (by decide)
    · rfl
    · (try dsimp only [zS, zN, zH, zT]); try exact rfl
    apply al_stepN
    · exact op_append Try.underlying22 Inf5 (by rfl) hApp (.list _ _ _ _ Try.underlying22 (LL.own _ _ _)) (by simpa using hOk) (by simp) (by simp <;> omega) (by simp <;> omega)
    · rfl
    · (try dsimp only [zS, zN, zH, zT]); try exact rfl
    apply al_stepN
    · exact op_assign_tmp (by rfl)
    · rfl
    · (try dsimp only [zS, zN, zH, zT]); try exact rfl
    apply al_end
    · (try dsimp only [zS, zN, zH, zT]); try exact rfl
    refine inBlock_normal (then_normal ?_)
    refine aw_region ?_
    apply al_stepN
    · exact op_move_tmp (by rfl)
    · rfl
    · (try dsimp only [zS, zN, zH, zT]); try exact rfl
    apply al_stepN
    · exact op_sub (by rfl) (by rfl) (show IntKind.i64.wrap (7 - (j : Int) - 1) = 7 - ((j + 1 : Nat) : Int) by rw [wrap_i64 (by omega)]; omega)
    · rfl
    · (try dsimp only [zS, zN, zH, zT]); try exact rfl
    apply al_stepN
    · exact op_assign_tmp (by rfl)
    · rfl
    · (try dsimp only [zS, zN, zH, zT]); try exact rfl
    apply al_end
    · (try dsimp only [zS, zN, zH, zT]); try exact rfl
    apply again_to (8 - (j + 1)) [true, false, false, false, false, true, true, false, false, false, false, false, false, false, false, false, false, false, false, false, false, false, false]
    · (try dsimp only [maskT]); try exact rfl
    · rfl
    · omega
    exact ⟨j + 1, _, rfl, by omega, rfl, Grew.mk hHeir (by simp [take_snoc (encI_get x hlt), BY]) (by simp [take_snoc (encI_get x hlt)] <;> omega)⟩
  · skip
    (try simp only [decide_eq_true_eq, decide_eq_false_iff_not, beq_iff_eq, beq_eq_false_iff_ne, Bool.not_eq_true', Bool.not_eq_false', bne_iff_ne, ne_eq, Decidable.not_not, bne_eq_false_iff_eq, List.length_map] at hc1)
    have hke : j = 8 := by omega
    subst hke
    rw [List.take_of_length_le (by omega)] at hG
    refine aw_exit ?_
    refine then_exit (again_exit (inBlock_here (then_normal ?_)))
    refine aw_seq ?_
    refine aw_region ?_
    apply al_stepN
    · exact op_move_tmp (by rfl)
    · rfl
    · (try dsimp only [zS, zN, zH, zT]); try exact rfl
    apply al_stepN
    · exact op_assign_tmp (by rfl)
    · rfl
    · (try dsimp only [zS, zN, zH, zT]); try exact rfl
    apply al_end
    · (try dsimp only [zS, zN, zH, zT]); try exact rfl
    refine then_normal ?_
    refine aw_ret ?_
    refine retPost1 rfl rfl ?_
    exact hG.ret (by intro e; rw [e] at hL; cases hL)
/- A value in bytes that have its order. -/
set_option maxHeartbeats 1000000 in
set_option maxRecDepth 100000 in
theorem ordV_step (Hs : HS) (t : Option Nat) (w : AV) (bs : List UInt8) (k : Int) (y : Bool) (i : Int) (tx : List UInt8) (ls : List V) (fs : List F) (h0 : 0 ≤ k) (h5 : k ≤ 5) (hi : i64 i) (hw : App w t 1 (bs.map BY)) (hok : Hs.ok t bs.length) (hB : bs.length + (ordV (.mk k y i tx ls fs)).length ≤ 1000000000) (ihL : ∀ x ∈ ls, ∀ (Hs : HS) (t : Option Nat) (w : AV) (bs : List UInt8), App w t 1 (bs.map BY) → Hs.ok t bs.length → bs.length + (ordV x).length ≤ 1000000000 → ACalls Try.prog 24 [w, .d (.agg (vC x))] Hs (Ret (ownB Hs t (bs ++ ordV x)) (upB Hs t (bs ++ ordV x)))) (ihF : ∀ x ∈ fs, ∀ (Hs : HS) (t : Option Nat) (w : AV) (bs : List UInt8), App w t 1 (bs.map BY) → Hs.ok t bs.length → bs.length + (ordV x.val).length ≤ 1000000000 → ACalls Try.prog 24 [w, .d (.agg (vC x.val))] Hs (Ret (ownB Hs t (bs ++ ordV x.val)) (upB Hs t (bs ++ ordV x.val)))) : ACalls Try.prog 24 [w, .d (.agg (v6D k y i tx ls fs))] Hs (Ret (ownB Hs t (bs ++ ordV (.mk k y i tx ls fs))) (upB Hs t (bs ++ ordV (.mk k y i tx ls fs)))) := by
  refine ACalls.tidyW ?_
  have hE := ordV_mk k y i tx ls fs
  refine acalls_of_aw Try.func24 rfl ?_
  refine aw_start (T' := (w :: (.d (.agg (v6D k y i tx ls fs))) :: .un :: .un :: .un :: .un :: .un :: .un :: .un :: .un :: .un :: .un :: .un :: .un :: .un :: .un :: .un :: .un :: .un :: .un :: .un :: .un :: .un :: .un :: .un :: .un :: .un :: .un :: .un :: .un :: .un :: .un :: .un :: .un :: .un :: .un :: .un :: .un :: .un :: .un :: .un :: .un :: .un :: .un :: .un :: .un :: .un :: .un :: .un :: .un :: .un :: .un :: .un :: .un :: .un :: .un :: .un :: .un :: .un :: .un :: .un :: .un :: .un :: .un :: .un :: .un :: .un :: .un :: .un :: .un :: .un :: .un :: .un :: .un :: .un :: .un :: .un :: .un :: .un :: [])) rfl ?_
  refine aw_seq ?_
  refine aw_region ?_
  apply al_stepN
  · exact op_box_elt (cs := v6D k y i tx ls fs) (by rfl) (by rfl)
  · rfl
  · (try dsimp only [zS, zN, zH, zT]); try exact rfl
  apply al_stepN
  · exact op_assign_const (by rfl)
  · rfl
  · (try dsimp only [zS, zN, zH, zT]); try exact rfl
  apply al_end
  · (try dsimp only [zS, zN, zH, zT]); try exact rfl
  refine then_normal ?_
  apply aw_cutF (fun T H => ∃ (u : Unit), T = ((ownB Hs t (bs ++ [UInt8.ofNat (k.toNat + 2)])) :: .un :: .un :: (.elt (v6D k y i tx ls fs)) :: .un :: .un :: .un :: .un :: .un :: .un :: .un :: .un :: .un :: .un :: .un :: .un :: .un :: .un :: .un :: .un :: .un :: .un :: .un :: .un :: .un :: .un :: .un :: .un :: .un :: .un :: .un :: .un :: .un :: .un :: .un :: .un :: .un :: .un :: .un :: .un :: .un :: .un :: .un :: .un :: .un :: .un :: .un :: .un :: .un :: .un :: .un :: .un :: .un :: .un :: .un :: .un :: .un :: .un :: .un :: .un :: .un :: .un :: .un :: .un :: .un :: .un :: .un :: .un :: .un :: .un :: .un :: .un :: .un :: .un :: .un :: .un :: .un :: .un :: .un :: []) ∧ Wr Hs t H (bs ++ [UInt8.ofNat (k.toNat + 2)]))
  · skip
    refine aw_region ?_
    apply al_stepN
    · exact op_move_tmp (by rfl)
    · rfl
    · (try dsimp only [zS, zN, zH, zT]); try exact rfl
    apply al_stepN
    · first | exact op_fieldAddr_ptr Try.underlying49 rfl Sz45 (by rfl) (by rfl) | exact op_fieldAddr_elt Try.underlying49 rfl Sz45 (by rfl) (by rfl) (by rfl)
    · rfl
    · (try dsimp only [zS, zN, zH, zT]); try exact rfl
    apply al_stepN
    · first | exact op_load_elt Try.underlying45 (by rfl) (by rfl) (by rfl) | exact op_load_ptr Try.underlying45 (by rfl) (by rfl) (by first | exact hPhi | exact setB_at push_at) (by rfl)
    · rfl
    · (try dsimp only [zS, zN, zH, zT]); try exact rfl
    apply al_stepN
    · exact op_convI (by rw [Try.underlying45]; rfl) Try.underlying5 (by rfl) (conv_kind h0 h5)
    · rfl
    · (try dsimp only [zS, zN, zH, zT]); try exact rfl
    apply al_stepN
    · exact op_add (by rfl) (by rfl) (conv_kind2 h0 h5)
    · rfl
    · (try dsimp only [zS, zN, zH, zT]); try exact rfl
    apply al_stepN
    · exact op_lit Try.underlying22 ZS5 (.cons (by rfl) (.nil _)) (by rfl) (by simp [BY, S, I, TF, DV.cells]) (by simp [flat, BY, S, I, TF, DV.cells, DV.one]) (by decide)
    · rfl
    · (try dsimp only [zS, zN, zH, zT]); try exact rfl
    apply al_stepN
    · exact op_append Try.underlying22 Inf5 (by rfl) hw (.list _ _ _ _ Try.underlying22 (LL.own _ _ _)) (by simpa using hok) (by simp) (by simp; omega) (by simp; omega)
    · rfl
    · (try dsimp only [zS, zN, zH, zT]); try exact rfl
    apply al_stepN
    · exact op_assign_tmp (by rfl)
    · rfl
    · (try dsimp only [zS, zN, zH, zT]); try exact rfl
    apply al_end
    · (try dsimp only [zS, zN, zH, zT]); try exact rfl
    apply cut_to (true :: false :: false :: true :: false :: false :: false :: false :: false :: false :: false :: false :: false :: false :: false :: false :: false :: false :: false :: false :: false :: false :: false :: false :: false :: false :: false :: false :: false :: false :: false :: false :: false :: false :: false :: false :: false :: false :: false :: false :: false :: false :: false :: false :: false :: false :: false :: false :: false :: false :: false :: false :: false :: false :: false :: false :: false :: false :: false :: false :: false :: false :: false :: false :: false :: false :: false :: false :: false :: false :: false :: false :: false :: false :: false :: false :: false :: false :: false :: [])
    · (try dsimp only [maskT]); try exact rfl
    · rfl
    exact ⟨(), by (simp [ownB, BY, DV.cells]), (by have h := Wr.start hok (bs ++ [UInt8.ofNat (k.toNat + 2)]); simpa [upB] using h)⟩
  rintro T H ⟨u, rfl, hr⟩
  refine aw_seq ?_
  refine aw_seq ?_
  refine aw_region ?_
  apply al_stepN
  · first | exact op_fieldAddr_ptr Try.underlying49 rfl Sz45 (by rfl) (by rfl) | exact op_fieldAddr_elt Try.underlying49 rfl Sz45 (by rfl) (by rfl) (by rfl)
  · rfl
  · (try dsimp only [zS, zN, zH, zT]); try exact rfl
  apply al_stepN
  · first | exact op_load_elt Try.underlying45 (by rfl) (by rfl) (by rfl) | exact op_load_ptr Try.underlying45 (by rfl) (by rfl) (by first | exact hPhi | exact setB_at push_at) (by rfl)
  · rfl
  · (try dsimp only [zS, zN, zH, zT]); try exact rfl
  apply al_end
  · (try dsimp only [zS, zN, zH, zT]); try exact rfl
  refine then_normal ?_
  refine aw_block ?_
  refine aw_seq ?_
  refine aw_region ?_
  apply al_stepN
  · exact op_eqI (by rfl) (by rfl)
  · rfl
  · (try dsimp only [zS, zN, zH, zT]); try exact rfl
  apply al_stepN
  · exact op_assign_tmp (by rfl)
  · rfl
  · (try dsimp only [zS, zN, zH, zT]); try exact rfl
  apply al_end
  · (try dsimp only [zS, zN, zH, zT]); try exact rfl
  refine then_normal ?_
  refine aw_cond rfl (fun hc1 => ?_) (fun hc1 => ?_)
  · skip
    (try simp only [decide_eq_true_eq, decide_eq_false_iff_not, beq_iff_eq, beq_eq_false_iff_ne, Bool.not_eq_true', Bool.not_eq_false', bne_iff_ne, ne_eq, Decidable.not_not, bne_eq_false_iff_eq, List.length_map] at hc1)
    have hk1 : k = 1 := hc1
    rw [if_pos hk1] at hE
    have hl2 := congrArg List.length hE
    simp at hl2
    refine aw_seq ?_
    refine aw_seq ?_
    refine aw_region ?_
    apply al_stepN
    · first | exact op_fieldAddr_ptr Try.underlying49 rfl Sz4 (by rfl) (by rfl) | exact op_fieldAddr_elt Try.underlying49 rfl Sz4 (by rfl) (by rfl) (by rfl)
    · rfl
    · (try dsimp only [zS, zN, zH, zT]); try exact rfl
    apply al_stepN
    · first | exact op_load_elt Try.underlying4 (by rfl) (by rfl) (by rfl) | exact op_load_ptr Try.underlying4 (by rfl) (by rfl) (by first | exact hPhi | exact setB_at push_at) (by rfl)
    · rfl
    · (try dsimp only [zS, zN, zH, zT]); try exact rfl
    apply al_end
    · (try dsimp only [zS, zN, zH, zT]); try exact rfl
    refine then_normal ?_
    refine aw_cond rfl (fun hc2 => ?_) (fun hc2 => ?_)
    · skip
      (try simp only [decide_eq_true_eq, decide_eq_false_iff_not, beq_iff_eq, beq_eq_false_iff_ne, Bool.not_eq_true', Bool.not_eq_false', bne_iff_ne, ne_eq, Decidable.not_not, bne_eq_false_iff_eq, List.length_map] at hc2)
      have hy : y = true := hc2
      subst hy
      refine aw_seq ?_
      refine aw_region ?_
      apply al_stepN
      · exact op_move_tmp (by rfl)
      · rfl
      · (try dsimp only [zS, zN, zH, zT]); try exact rfl
      apply al_stepN
      · exact op_lit Try.underlying22 ZS5 (.cons (by rfl) (.nil _)) (by rfl) (by simp [BY, S, I, TF, DV.cells]) (by simp [flat, BY, S, I, TF, DV.cells, DV.one]) (by decide)
      · rfl
      · (try dsimp only [zS, zN, zH, zT]); try exact rfl
      apply al_stepN
      · exact op_appendT [3] Try.underlying22 Inf5 (by rfl) (by rfl) (.list _ _ _ _ Try.underlying22 (LL.own _ _ _)) (by rfl) hr.ok (by simp) (by simp; omega)
      · rfl
      · (try dsimp only [zS, zN, zH, zT]); try exact rfl
      apply al_stepN
      · exact op_assign_tmp (by rfl)
      · rfl
      · (try dsimp only [zS, zN, zH, zT]); try exact rfl
      apply al_end
      · (try dsimp only [zS, zN, zH, zT]); try exact rfl
      refine then_normal ?_
      refine aw_ret ?_
      refine then_ret (inBlock_ret (then_ret ?_))
      refine retPost1 rfl rfl ?_
      have e : (bs ++ [UInt8.ofNat (k.toNat + 2)]) ++ [3] = bs ++ ordV (.mk k true i tx ls fs) := by rw [hE]; simp
      rw [← e]
      exact ⟨rfl, hr.step _⟩
    · skip
      (try simp only [decide_eq_true_eq, decide_eq_false_iff_not, beq_iff_eq, beq_eq_false_iff_ne, Bool.not_eq_true', Bool.not_eq_false', bne_iff_ne, ne_eq, Decidable.not_not, bne_eq_false_iff_eq, List.length_map] at hc2)
      have hy : y = false := hc2
      subst hy
      refine aw_skip ?_
      refine then_normal ?_
      refine aw_seq ?_
      refine aw_region ?_
      apply al_stepN
      · exact op_move_tmp (by rfl)
      · rfl
      · (try dsimp only [zS, zN, zH, zT]); try exact rfl
      apply al_stepN
      · exact op_lit Try.underlying22 ZS5 (.cons (by rfl) (.nil _)) (by rfl) (by simp [BY, S, I, TF, DV.cells]) (by simp [flat, BY, S, I, TF, DV.cells, DV.one]) (by decide)
      · rfl
      · (try dsimp only [zS, zN, zH, zT]); try exact rfl
      apply al_stepN
      · exact op_appendT [2] Try.underlying22 Inf5 (by rfl) (by rfl) (.list _ _ _ _ Try.underlying22 (LL.own _ _ _)) (by rfl) hr.ok (by simp) (by simp; omega)
      · rfl
      · (try dsimp only [zS, zN, zH, zT]); try exact rfl
      apply al_stepN
      · exact op_assign_tmp (by rfl)
      · rfl
      · (try dsimp only [zS, zN, zH, zT]); try exact rfl
      apply al_end
      · (try dsimp only [zS, zN, zH, zT]); try exact rfl
      refine then_normal ?_
      refine aw_ret ?_
      refine inBlock_ret (then_ret ?_)
      refine retPost1 rfl rfl ?_
      have e : (bs ++ [UInt8.ofNat (k.toNat + 2)]) ++ [2] = bs ++ ordV (.mk k false i tx ls fs) := by rw [hE]; simp
      rw [← e]
      exact ⟨rfl, hr.step _⟩
  · skip
    (try simp only [decide_eq_true_eq, decide_eq_false_iff_not, beq_iff_eq, beq_eq_false_iff_ne, Bool.not_eq_true', Bool.not_eq_false', bne_iff_ne, ne_eq, Decidable.not_not, bne_eq_false_iff_eq, List.length_map] at hc1)
    have hk1 : ¬ k = 1 := hc1
    refine aw_seq ?_
    refine aw_region ?_
    apply al_stepN
    · exact op_eqI (by rfl) (by rfl)
    · rfl
    · (try dsimp only [zS, zN, zH, zT]); try exact rfl
    apply al_stepN
    · exact op_assign_tmp (by rfl)
    · rfl
    · (try dsimp only [zS, zN, zH, zT]); try exact rfl
    apply al_end
    · (try dsimp only [zS, zN, zH, zT]); try exact rfl
    refine then_normal ?_
    refine aw_cond rfl (fun hc3 => ?_) (fun hc3 => ?_)
    · skip
      (try simp only [decide_eq_true_eq, decide_eq_false_iff_not, beq_iff_eq, beq_eq_false_iff_ne, Bool.not_eq_true', Bool.not_eq_false', bne_iff_ne, ne_eq, Decidable.not_not, bne_eq_false_iff_eq, List.length_map] at hc3)
      have hk2 : k = 2 := hc3
      rw [if_neg hk1, if_pos hk2] at hE
      have hl2 := congrArg List.length hE
      simp [encI_len] at hl2
      refine aw_seq ?_
      refine aw_region ?_
      apply al_stepN
      · exact op_move_tmp (by rfl)
      · rfl
      · (try dsimp only [zS, zN, zH, zT]); try exact rfl
      apply al_stepN
      · first | exact op_fieldAddr_ptr Try.underlying49 rfl Sz2 (by rfl) (by rfl) | exact op_fieldAddr_elt Try.underlying49 rfl Sz2 (by rfl) (by rfl) (by rfl)
      · rfl
      · (try dsimp only [zS, zN, zH, zT]); try exact rfl
      apply al_stepN
      · first | exact op_load_elt Try.underlying2 (by rfl) (by rfl) (by rfl) | exact op_load_ptr Try.underlying2 (by rfl) (by rfl) (by first | exact hPhi | exact setB_at push_at) (by rfl)
      · rfl
      · (try dsimp only [zS, zN, zH, zT]); try exact rfl
      apply al_stepN
      · exact op_callF Try.func14 (by rfl) (by rfl) (.tmp (by rfl) (.tmp (by rfl) .nil)) (int_ok H (some (Hs.tk t)) _ (bs ++ [UInt8.ofNat (k.toNat + 2)]) i (App.own _ _ _) hr.ok hi (by simp; omega))
      · rfl
      · (try dsimp only [zS, zN, zH, zT]); try exact rfl
      apply al_stepN
      · exact op_assign_tmp (by rfl)
      · rfl
      · (try dsimp only [zS, zN, zH, zT]); try exact rfl
      apply al_end
      · (try dsimp only [zS, zN, zH, zT]); try exact rfl
      refine then_normal ?_
      refine aw_ret ?_
      refine inBlock_ret (then_ret ?_)
      refine retPost1 rfl rfl ?_
      have e : (bs ++ [UInt8.ofNat (k.toNat + 2)]) ++ encI i = bs ++ ordV (.mk k y i tx ls fs) := by rw [hE]; simp
      rw [← e]
      exact ⟨rfl, hr.step _⟩
    · skip
      (try simp only [decide_eq_true_eq, decide_eq_false_iff_not, beq_iff_eq, beq_eq_false_iff_ne, Bool.not_eq_true', Bool.not_eq_false', bne_iff_ne, ne_eq, Decidable.not_not, bne_eq_false_iff_eq, List.length_map] at hc3)
      have hk2 : ¬ k = 2 := hc3
      refine aw_seq ?_
      refine aw_region ?_
      apply al_stepN
      · exact op_eqI (by rfl) (by rfl)
      · rfl
      · (try dsimp only [zS, zN, zH, zT]); try exact rfl
      apply al_stepN
      · exact op_assign_tmp (by rfl)
      · rfl
      · (try dsimp only [zS, zN, zH, zT]); try exact rfl
      apply al_end
      · (try dsimp only [zS, zN, zH, zT]); try exact rfl
      refine then_normal ?_
      refine aw_cond rfl (fun hc4 => ?_) (fun hc4 => ?_)
      · skip
        (try simp only [decide_eq_true_eq, decide_eq_false_iff_not, beq_iff_eq, beq_eq_false_iff_ne, Bool.not_eq_true', Bool.not_eq_false', bne_iff_ne, ne_eq, Decidable.not_not, bne_eq_false_iff_eq, List.length_map] at hc4)
        have hk3 : k = 3 := hc4
        rw [if_neg hk1, if_neg hk2, if_pos hk3] at hE
        have hl2 := congrArg List.length hE
        simp [encT_len] at hl2
        refine aw_seq ?_
        refine aw_region ?_
        apply al_stepN
        · exact op_move_tmp (by rfl)
        · rfl
        · (try dsimp only [zS, zN, zH, zT]); try exact rfl
        apply al_stepN
        · first | exact op_fieldAddr_ptr Try.underlying49 rfl Sz9 (by rfl) (by rfl) | exact op_fieldAddr_elt Try.underlying49 rfl Sz9 (by rfl) (by rfl) (by rfl)
        · rfl
        · (try dsimp only [zS, zN, zH, zT]); try exact rfl
        apply al_stepN
        · first | exact op_load_elt Try.underlying9 (by rfl) (by rfl) (by rfl) | exact op_load_ptr Try.underlying9 (by rfl) (by rfl) (by first | exact hPhi | exact setB_at push_at) (by rfl)
        · rfl
        · (try dsimp only [zS, zN, zH, zT]); try exact rfl
        apply al_stepN
        · exact op_callF Try.func12 (by rfl) (by rfl) (.tmp (by rfl) (.tmp (by rfl) .nil)) (text_ok H (some (Hs.tk t)) _ (bs ++ [UInt8.ofNat (k.toNat + 2)]) tx (App.own _ _ _) hr.ok (by have := enc0_len tx; simp; omega))
        · rfl
        · (try dsimp only [zS, zN, zH, zT]); try exact rfl
        apply al_stepN
        · exact op_assign_tmp (by rfl)
        · rfl
        · (try dsimp only [zS, zN, zH, zT]); try exact rfl
        apply al_end
        · (try dsimp only [zS, zN, zH, zT]); try exact rfl
        refine then_normal ?_
        refine aw_ret ?_
        refine inBlock_ret (then_ret ?_)
        refine retPost1 rfl rfl ?_
        have e : (bs ++ [UInt8.ofNat (k.toNat + 2)]) ++ encT tx = bs ++ ordV (.mk k y i tx ls fs) := by rw [hE]; simp
        rw [← e]
        exact ⟨rfl, hr.step _⟩
      · skip
        (try simp only [decide_eq_true_eq, decide_eq_false_iff_not, beq_iff_eq, beq_eq_false_iff_ne, Bool.not_eq_true', Bool.not_eq_false', bne_iff_ne, ne_eq, Decidable.not_not, bne_eq_false_iff_eq, List.length_map] at hc4)
        have hk3 : ¬ k = 3 := hc4
        refine aw_seq ?_
        refine aw_region ?_
        apply al_stepN
        · exact op_eqI (by rfl) (by rfl)
        · rfl
        · (try dsimp only [zS, zN, zH, zT]); try exact rfl
        apply al_stepN
        · exact op_assign_tmp (by rfl)
        · rfl
        · (try dsimp only [zS, zN, zH, zT]); try exact rfl
        apply al_end
        · (try dsimp only [zS, zN, zH, zT]); try exact rfl
        refine then_normal ?_
        refine aw_cond rfl (fun hc5 => ?_) (fun hc5 => ?_)
        · skip
          (try simp only [decide_eq_true_eq, decide_eq_false_iff_not, beq_iff_eq, beq_eq_false_iff_ne, Bool.not_eq_true', Bool.not_eq_false', bne_iff_ne, ne_eq, Decidable.not_not, bne_eq_false_iff_eq, List.length_map] at hc5)
          have hk4 : k = 4 := hc5
          subst hk4
          have hlen := ordList_len (y := y) (i := i) (tx := tx) (ls := ls) (fs := fs) bs
          have hge := flat_ge ordV (fun v => by cases v; rw [ordV_mk]; simp) ls
          have hl3 : ls.length ≤ 1000000000 := by have h := hlen; simp only [ordLj, List.length_append, List.length_cons, List.take_length] at h; omega
          refine aw_seq ?_
          refine aw_seq ?_
          refine aw_region ?_
          apply al_stepN
          · first | exact op_fieldAddr_ptr Try.underlying49 rfl Sz46 (by rfl) (by rfl) | exact op_fieldAddr_elt Try.underlying49 rfl Sz46 (by rfl) (by rfl) (by rfl)
          · rfl
          · (try dsimp only [zS, zN, zH, zT]); try exact rfl
          apply al_stepN
          · first | exact op_load_elt Try.underlying46 (by rfl) (by rfl) (by rfl) | exact op_load_ptr Try.underlying46 (by rfl) (by rfl) (by first | exact hPhi | exact setB_at push_at) (by rfl)
          · rfl
          · (try dsimp only [zS, zN, zH, zT]); try exact rfl
          apply al_stepN
          · exact op_lenL Try.underlying46 (by first | exact LL.d _ _ | exact LL.own _ _ _ | exact LL.nil _ | assumption)
          · rfl
          · (try dsimp only [zS, zN, zH, zT]); try exact rfl
          apply al_stepN
          · exact op_move_const (by rfl)
          · rfl
          · (try dsimp only [zS, zN, zH, zT]); try exact rfl
          apply al_end
          · (try dsimp only [zS, zN, zH, zT]); try exact rfl
          refine then_normal ?_
          refine aw_block ?_
          apply aw_loopF (fun n T H => ∃ (j : Nat), T = ((ownB Hs t (ordLj bs ls j)) :: .un :: .un :: .un :: .un :: .un :: .un :: .un :: .un :: .un :: .un :: .un :: .un :: .un :: .un :: .un :: .un :: .un :: .un :: .un :: .un :: .un :: .un :: .un :: .un :: .un :: .un :: .un :: .un :: .un :: .un :: .un :: .un :: .un :: .un :: .un :: .un :: .un :: .un :: .un :: .un :: .un :: .un :: (.d (.lst 6 (ls.map vD))) :: (.d (I (ls.map vD).length)) :: (.d (I j)) :: .un :: .un :: .un :: .un :: .un :: .un :: .un :: .un :: .un :: .un :: .un :: .un :: .un :: .un :: .un :: .un :: .un :: .un :: .un :: .un :: .un :: .un :: .un :: .un :: .un :: .un :: .un :: .un :: .un :: .un :: .un :: .un :: .un :: []) ∧ j ≤ ls.length ∧ n = ls.length - j ∧ Wr Hs t H (ordLj bs ls j)) (ls.length) (true :: false :: false :: false :: false :: false :: false :: false :: false :: false :: false :: false :: false :: false :: false :: false :: false :: false :: false :: false :: false :: false :: false :: false :: false :: false :: false :: false :: false :: false :: false :: false :: false :: false :: false :: false :: false :: false :: false :: false :: false :: false :: false :: true :: true :: true :: false :: false :: false :: false :: false :: false :: false :: false :: false :: false :: false :: false :: false :: false :: false :: false :: false :: false :: false :: false :: false :: false :: false :: false :: false :: false :: false :: false :: false :: false :: false :: false :: false :: [])
          · (try dsimp only [maskT]); try exact rfl
          · rfl
          · exact ⟨0, by simp [ordLj, I], by omega, rfl, by simpa [ordLj] using hr⟩
          rintro n T H ⟨j, rfl, hj, rfl, hr⟩
          refine aw_seq ?_
          refine aw_region ?_
          apply al_stepN
          · exact op_ltI (by rfl) (by rfl)
          · rfl
          · (try dsimp only [zS, zN, zH, zT]); try exact rfl
          apply al_end
          · (try dsimp only [zS, zN, zH, zT]); try exact rfl
          refine then_normal ?_
          refine aw_seq ?_
          refine aw_cond rfl (fun hc6 => ?_) (fun hc6 => ?_)
          · skip
            (try simp only [decide_eq_true_eq, decide_eq_false_iff_not, beq_iff_eq, beq_eq_false_iff_ne, Bool.not_eq_true', Bool.not_eq_false', bne_iff_ne, ne_eq, Decidable.not_not, bne_eq_false_iff_eq, List.length_map] at hc6)
            (try simp only [List.length_map] at hc6)
            have hlt : j < ls.length := by omega
            obtain ⟨x, hx⟩ : ∃ x, ls[j]? = some x := ⟨_, List.getElem?_eq_getElem hlt⟩
            have hle := ordLj_le (bs := bs) (y := y) (i := i) (tx := tx) (fs := fs) hx
            refine aw_skip ?_
            refine then_normal ?_
            refine aw_seq ?_
            refine aw_block ?_
            refine aw_seq ?_
            refine aw_region ?_
            apply al_stepN
            · exact op_indexAddr (z := vD x) (cs := [I x.kind, TF x.yes, .v (.int .i64 x.num), S x.text, .lst 6 (x.list.map vD), .lst 7 (x.fields.map fD)]) Try.underlying46 Sz49 (LL.d _ _) (by rfl) (by omega) (by rw [List.getElem?_map, show ((j : Nat) : Int).toNat = j from rfl, hx]; rfl) (vD_cells x)
            · rfl
            · (try dsimp only [zS, zN, zH, zT]); try exact rfl
            apply al_stepN
            · exact op_load_elts (ds := vC x) Try.underlying49 (by rfl) Sz49 (by rfl) (Nat.le_of_ble_eq_true rfl) (by rw [vC_eq]; rfl)
            · rfl
            · (try dsimp only [zS, zN, zH, zT]); try exact rfl
            apply al_stepN
            · exact op_alloc (Zr49) (by rfl)
            · rfl
            · (try dsimp only [zS, zN, zH, zT]); try exact rfl
            apply al_stepN
            · exact op_storeV (b' := ⟨49, (vC x).map .d, false⟩) x Sz49 (by rfl) push_at (by rfl) (Nat.le_of_ble_eq_true rfl) (by rfl) (by rw [vC_eq]; rfl)
            · rfl
            · (try dsimp only [zS, zN, zH, zT]); try exact rfl
            apply al_end
            · (try dsimp only [zS, zN, zH, zT]); try exact rfl
            refine then_normal ?_
            refine aw_region ?_
            apply al_stepN
            · exact op_move_tmp (by rfl)
            · rfl
            · (try dsimp only [zS, zN, zH, zT]); try exact rfl
            apply al_stepN
            · exact op_load_ptrsD (vC x) Try.underlying49 (by rfl) Sz49 (by rfl) (setB_at push_at) (by show 0 + 6 ≤ ((vC x).map AV.d).length; rw [List.length_map, vC_len]; exact Nat.le_refl _) (by show (((vC x).map AV.d).drop 0).take 6 = _; rw [List.drop_zero, List.take_of_length_le (by rw [List.length_map, vC_len]; exact Nat.le_refl _)]) (vC_one x)
            · rfl
            · (try dsimp only [zS, zN, zH, zT]); try exact rfl
            apply al_stepN
            · exact op_callF Try.func24 (by rfl) (by rfl) (.tmp (by rfl) (.tmp (by rfl) .nil)) (ihL x (List.mem_of_getElem? hx) _ (some (Hs.tk t)) _ (ordLj bs ls j) (App.own _ _ _) hr.ok (by omega))
            · rfl
            · (try dsimp only [zS, zN, zH, zT]); try exact rfl
            apply al_stepN
            · exact op_assign_tmp (by rfl)
            · rfl
            · (try dsimp only [zS, zN, zH, zT]); try exact rfl
            apply al_end
            · (try dsimp only [zS, zN, zH, zT]); try exact rfl
            refine inBlock_normal (then_normal ?_)
            refine aw_region ?_
            apply al_stepN
            · first | exact op_add (by rfl) (by rfl) (wrap_i64 ⟨by omega, by omega⟩) | exact op_add (by rfl) (by rfl) (by rfl)
            · rfl
            · (try dsimp only [zS, zN, zH, zT]); try exact rfl
            apply al_stepN
            · exact op_move_tmp (by rfl)
            · rfl
            · (try dsimp only [zS, zN, zH, zT]); try exact rfl
            apply al_end
            · (try dsimp only [zS, zN, zH, zT]); try exact rfl
            apply again_to (ls.length - (j + 1)) (true :: false :: false :: false :: false :: false :: false :: false :: false :: false :: false :: false :: false :: false :: false :: false :: false :: false :: false :: false :: false :: false :: false :: false :: false :: false :: false :: false :: false :: false :: false :: false :: false :: false :: false :: false :: false :: false :: false :: false :: false :: false :: false :: true :: true :: true :: false :: false :: false :: false :: false :: false :: false :: false :: false :: false :: false :: false :: false :: false :: false :: false :: false :: false :: false :: false :: false :: false :: false :: false :: false :: false :: false :: false :: false :: false :: false :: false :: false :: [])
            · (try dsimp only [maskT]); try exact rfl
            · rfl
            · omega
            exact ⟨j + 1, by (rw [ordLj_step hx]) <;> rfl, by omega, rfl, by rw [ordLj_step hx]; exact (hr.push.setB hr.nb).step _⟩
          · skip
            (try simp only [decide_eq_true_eq, decide_eq_false_iff_not, beq_iff_eq, beq_eq_false_iff_ne, Bool.not_eq_true', Bool.not_eq_false', bne_iff_ne, ne_eq, Decidable.not_not, bne_eq_false_iff_eq, List.length_map] at hc6)
            (try simp only [List.length_map] at hc6)
            have hje : j = ls.length := by omega
            subst hje
            refine aw_exit ?_
            refine then_exit (again_exit (inBlock_here (then_normal ?_)))
            refine aw_seq ?_
            refine aw_region ?_
            apply al_stepN
            · exact op_move_tmp (by rfl)
            · rfl
            · (try dsimp only [zS, zN, zH, zT]); try exact rfl
            apply al_stepN
            · exact op_lit Try.underlying22 ZS5 (.cons (by rfl) (.nil _)) (by rfl) (by simp [BY, S, I, TF, DV.cells]) (by simp [flat, BY, S, I, TF, DV.cells, DV.one]) (by decide)
            · rfl
            · (try dsimp only [zS, zN, zH, zT]); try exact rfl
            apply al_stepN
            · exact op_appendT [1] Try.underlying22 Inf5 (by rfl) (by rfl) (.list _ _ _ _ Try.underlying22 (LL.own _ _ _)) (by rfl) hr.ok (by simp) (by simp; omega)
            · rfl
            · (try dsimp only [zS, zN, zH, zT]); try exact rfl
            apply al_stepN
            · exact op_assign_tmp (by rfl)
            · rfl
            · (try dsimp only [zS, zN, zH, zT]); try exact rfl
            apply al_end
            · (try dsimp only [zS, zN, zH, zT]); try exact rfl
            refine then_normal ?_
            refine aw_ret ?_
            refine inBlock_ret (then_ret ?_)
            refine retPost1 rfl rfl ?_
            have e : ordLj bs ls ls.length ++ [1] = bs ++ ordV (.mk 4 y i tx ls fs) := by exact ordLj_full
            rw [← e]
            exact ⟨rfl, hr.step _⟩
        · skip
          (try simp only [decide_eq_true_eq, decide_eq_false_iff_not, beq_iff_eq, beq_eq_false_iff_ne, Bool.not_eq_true', Bool.not_eq_false', bne_iff_ne, ne_eq, Decidable.not_not, bne_eq_false_iff_eq, List.length_map] at hc5)
          have hk4 : ¬ k = 4 := hc5
          refine aw_seq ?_
          refine aw_region ?_
          apply al_stepN
          · exact op_eqI (by rfl) (by rfl)
          · rfl
          · (try dsimp only [zS, zN, zH, zT]); try exact rfl
          apply al_stepN
          · exact op_assign_tmp (by rfl)
          · rfl
          · (try dsimp only [zS, zN, zH, zT]); try exact rfl
          apply al_end
          · (try dsimp only [zS, zN, zH, zT]); try exact rfl
          refine then_normal ?_
          refine aw_cond rfl (fun hc7 => ?_) (fun hc7 => ?_)
          · skip
            (try simp only [decide_eq_true_eq, decide_eq_false_iff_not, beq_iff_eq, beq_eq_false_iff_ne, Bool.not_eq_true', Bool.not_eq_false', bne_iff_ne, ne_eq, Decidable.not_not, bne_eq_false_iff_eq, List.length_map] at hc7)
            have hk5 : k = 5 := hc7
            subst hk5
            have hlen := ordFields_len (y := y) (i := i) (tx := tx) (ls := ls) (fs := fs) bs
            have hge := flat_ge ordF1 (fun v => by simp [ordF1]) fs
            have hl3 : fs.length ≤ 1000000000 := by have h := hlen; simp only [ordFj, List.length_append, List.length_cons, List.take_length] at h; omega
            refine aw_seq ?_
            refine aw_seq ?_
            refine aw_region ?_
            apply al_stepN
            · first | exact op_fieldAddr_ptr Try.underlying49 rfl Sz47 (by rfl) (by rfl) | exact op_fieldAddr_elt Try.underlying49 rfl Sz47 (by rfl) (by rfl) (by rfl)
            · rfl
            · (try dsimp only [zS, zN, zH, zT]); try exact rfl
            apply al_stepN
            · first | exact op_load_elt Try.underlying47 (by rfl) (by rfl) (by rfl) | exact op_load_ptr Try.underlying47 (by rfl) (by rfl) (by first | exact hPhi | exact setB_at push_at) (by rfl)
            · rfl
            · (try dsimp only [zS, zN, zH, zT]); try exact rfl
            apply al_stepN
            · exact op_lenL Try.underlying47 (by first | exact LL.d _ _ | exact LL.own _ _ _ | exact LL.nil _ | assumption)
            · rfl
            · (try dsimp only [zS, zN, zH, zT]); try exact rfl
            apply al_stepN
            · exact op_move_const (by rfl)
            · rfl
            · (try dsimp only [zS, zN, zH, zT]); try exact rfl
            apply al_end
            · (try dsimp only [zS, zN, zH, zT]); try exact rfl
            refine then_normal ?_
            refine aw_block ?_
            apply aw_loopF (fun n T H => ∃ (j : Nat), T = ((ownB Hs t (ordFj bs fs j)) :: .un :: .un :: .un :: .un :: .un :: .un :: .un :: .un :: .un :: .un :: .un :: .un :: .un :: .un :: .un :: .un :: .un :: .un :: .un :: .un :: .un :: .un :: .un :: .un :: .un :: .un :: .un :: .un :: .un :: .un :: .un :: .un :: .un :: .un :: .un :: .un :: .un :: .un :: .un :: .un :: .un :: .un :: .un :: .un :: .un :: .un :: .un :: .un :: .un :: .un :: .un :: .un :: .un :: .un :: .un :: .un :: .un :: .un :: (.d (.lst 7 (fs.map fD))) :: (.d (I (fs.map fD).length)) :: (.d (I j)) :: .un :: .un :: .un :: .un :: .un :: .un :: .un :: .un :: .un :: .un :: .un :: .un :: .un :: .un :: .un :: .un :: .un :: []) ∧ j ≤ fs.length ∧ n = fs.length - j ∧ Wr Hs t H (ordFj bs fs j)) (fs.length) (true :: false :: false :: false :: false :: false :: false :: false :: false :: false :: false :: false :: false :: false :: false :: false :: false :: false :: false :: false :: false :: false :: false :: false :: false :: false :: false :: false :: false :: false :: false :: false :: false :: false :: false :: false :: false :: false :: false :: false :: false :: false :: false :: false :: false :: false :: false :: false :: false :: false :: false :: false :: false :: false :: false :: false :: false :: false :: false :: true :: true :: true :: false :: false :: false :: false :: false :: false :: false :: false :: false :: false :: false :: false :: false :: false :: false :: false :: false :: [])
            · (try dsimp only [maskT]); try exact rfl
            · rfl
            · exact ⟨0, by simp [ordFj, I], by omega, rfl, by simpa [ordFj] using hr⟩
            rintro n T H ⟨j, rfl, hj, rfl, hr⟩
            refine aw_seq ?_
            refine aw_region ?_
            apply al_stepN
            · exact op_ltI (by rfl) (by rfl)
            · rfl
            · (try dsimp only [zS, zN, zH, zT]); try exact rfl
            apply al_end
            · (try dsimp only [zS, zN, zH, zT]); try exact rfl
            refine then_normal ?_
            refine aw_seq ?_
            refine aw_cond rfl (fun hc8 => ?_) (fun hc8 => ?_)
            · skip
              (try simp only [decide_eq_true_eq, decide_eq_false_iff_not, beq_iff_eq, beq_eq_false_iff_ne, Bool.not_eq_true', Bool.not_eq_false', bne_iff_ne, ne_eq, Decidable.not_not, bne_eq_false_iff_eq, List.length_map] at hc8)
              (try simp only [List.length_map] at hc8)
              have hlt : j < fs.length := by omega
              obtain ⟨x, hx⟩ : ∃ x, fs[j]? = some x := ⟨_, List.getElem?_eq_getElem hlt⟩
              have hle := ordFj_le (bs := bs) (y := y) (i := i) (tx := tx) (ls := ls) hx
              refine aw_skip ?_
              refine then_normal ?_
              refine aw_seq ?_
              refine aw_block ?_
              refine aw_seq ?_
              refine aw_region ?_
              apply al_stepN
              · exact op_indexAddr (z := fD x) (cs := [S x.name, I x.val.kind, TF x.val.yes, .v (.int .i64 x.val.num), S x.val.text, .lst 6 (x.val.list.map vD), .lst 7 (x.val.fields.map fD)]) Try.underlying47 Sz65 (LL.d _ _) (by rfl) (by omega) (by rw [List.getElem?_map, show ((j : Nat) : Int).toNat = j from rfl, hx]; rfl) (fD_cells7 x)
              · rfl
              · (try dsimp only [zS, zN, zH, zT]); try exact rfl
              apply al_stepN
              · exact op_load_elts (ds := fC x) Try.underlying65 (by rfl) Sz65 (by rfl) (Nat.le_of_ble_eq_true rfl) (by rw [← fC7]; rfl)
              · rfl
              · (try dsimp only [zS, zN, zH, zT]); try exact rfl
              apply al_stepN
              · exact op_alloc (Zr65) (by rfl)
              · rfl
              · (try dsimp only [zS, zN, zH, zT]); try exact rfl
              apply al_stepN
              · exact op_storeF (b' := f1 65 x) x Sz65 (by rfl) push_at (by rfl) (Nat.le_of_ble_eq_true rfl) (by rfl) (by unfold f1; rw [← fC7]; rfl)
              · rfl
              · (try dsimp only [zS, zN, zH, zT]); try exact rfl
              apply al_end
              · (try dsimp only [zS, zN, zH, zT]); try exact rfl
              refine then_normal ?_
              refine aw_drawX (fun K => K.blks[H.nb]? = some (f1 65 x)) [0, 0, 2, 0, 0, 2, 0, 0, 2, 0] mixed (by kernel_rfl) (setB_at push_at) (.inr (by kernel_rfl)) ?_
              apply drun0X
              · intro H hPhi; exact op_move_tmp (by rfl)
              · rfl
              apply drun_normT
              · (try dsimp only [zS, zN, zH, zT]); try exact rfl
              apply drun0X
              · intro H hPhi; exact op_lit Try.underlying22 ZS5 (.cons (by rfl) (.nil _)) (by rfl) (by simp [BY, S, I, TF, DV.cells]) (by simp [flat, BY, S, I, TF, DV.cells, DV.one]) (by decide)
              · rfl
              apply drun_normT
              · (try dsimp only [zS, zN, zH, zT]); try exact rfl
              apply drun2X
              · exact op_appendT [2] Try.underlying22 Inf5 (by rfl) (by rfl) (.list _ _ _ _ Try.underlying22 (LL.own _ _ _)) (by rfl) hr.ok (by simp) (by simp; omega)
              · rfl
              · refine .inr ?_; first | (rw [HS.up_blks]; exact setB_at push_at) | (rw [HS.up_blks, HS.up_blks]; exact setB_at push_at) | (rw [HS.up_blks, HS.up_blks, HS.up_blks]; exact setB_at push_at)
              apply drun_normT
              · (try dsimp only [zS, zN, zH, zT]); try exact rfl
              apply drun0X
              · intro H hPhi; first | exact op_fieldAddr_ptr Try.underlying65 rfl Sz9 (by rfl) (by rfl) | exact op_fieldAddr_elt Try.underlying65 rfl Sz9 (by rfl) (by rfl) (by rfl)
              · rfl
              apply drun_normT
              · (try dsimp only [zS, zN, zH, zT]); try exact rfl
              apply drun0X
              · intro H hPhi; exact op_load_ptr Try.underlying9 (by rfl) (by rfl) hPhi (f1_name x)
              · rfl
              apply drun_normT
              · (try dsimp only [zS, zN, zH, zT]); try exact rfl
              apply drun2X
              · exact op_callF Try.func12 (by rfl) (by rfl) (.tmp (by rfl) (.tmp (by rfl) .nil)) (text_ok _ (some (Hs.tk t)) _ (ordFj bs fs j ++ [2]) x.name (App.own _ _ _) (okB _ (some (Hs.tk t)) _ (show HS.ok ((H.push _ _).setB _ _) _ _ from hr.ok)) (by have := enc0_len x.name; have := encT_len x.name; simp; omega))
              · rfl
              · refine .inr ?_; first | (rw [HS.up_blks]; exact setB_at push_at) | (rw [HS.up_blks, HS.up_blks]; exact setB_at push_at) | (rw [HS.up_blks, HS.up_blks, HS.up_blks]; exact setB_at push_at)
              apply drun_normT
              · (try dsimp only [zS, zN, zH, zT]); try exact rfl
              apply drun0X
              · intro H hPhi; first | exact op_fieldAddr_ptr Try.underlying65 rfl Sz49 (by rfl) (by rfl) | exact op_fieldAddr_elt Try.underlying65 rfl Sz49 (by rfl) (by rfl) (by rfl)
              · rfl
              apply drun_normT
              · (try dsimp only [zS, zN, zH, zT]); try exact rfl
              apply drun0X
              · intro H hPhi; exact op_load_ptrsD (vC x.val) Try.underlying49 (by rfl) Sz49 (by rfl) hPhi (by show 1 + 6 ≤ ((fC x).map AV.d).length; rw [List.length_map, fC_len]; exact Nat.le_refl _) (f1_val x) (vC_one _)
              · rfl
              apply drun_normT
              · (try dsimp only [zS, zN, zH, zT]); try exact rfl
              apply drun2X
              · exact op_callF Try.func24 (by rfl) (by rfl) (.tmp (by rfl) (.tmp (by rfl) .nil)) (ihF x (List.mem_of_getElem? hx) _ (some (Hs.tk t)) _ (ordFj bs fs j ++ [2] ++ encT x.name) (App.own _ _ _) (okB _ (some (Hs.tk t)) _ (okB _ (some (Hs.tk t)) _ (show HS.ok ((H.push _ _).setB _ _) _ _ from hr.ok))) (by simp; omega))
              · rfl
              · refine .inr ?_; first | (rw [HS.up_blks]; exact setB_at push_at) | (rw [HS.up_blks, HS.up_blks]; exact setB_at push_at) | (rw [HS.up_blks, HS.up_blks, HS.up_blks]; exact setB_at push_at)
              apply drun_normT
              · (try dsimp only [zS, zN, zH, zT]); try exact rfl
              apply drun0X
              · intro H hPhi; exact op_assign_tmp (by rfl)
              · rfl
              apply drun_normT
              · (try dsimp only [zS, zN, zH, zT]); try exact rfl
              apply drun_end
              · (try dsimp only [zS, zN, zH, zT]); try exact rfl
              refine inBlock_normal (then_normal ?_)
              refine aw_region ?_
              apply al_stepN
              · first | exact op_add (by rfl) (by rfl) (wrap_i64 ⟨by omega, by omega⟩) | exact op_add (by rfl) (by rfl) (by rfl)
              · rfl
              · (try dsimp only [zS, zN, zH, zT]); try exact rfl
              apply al_stepN
              · exact op_move_tmp (by rfl)
              · rfl
              · (try dsimp only [zS, zN, zH, zT]); try exact rfl
              apply al_end
              · (try dsimp only [zS, zN, zH, zT]); try exact rfl
              apply again_to (fs.length - (j + 1)) (true :: false :: false :: false :: false :: false :: false :: false :: false :: false :: false :: false :: false :: false :: false :: false :: false :: false :: false :: false :: false :: false :: false :: false :: false :: false :: false :: false :: false :: false :: false :: false :: false :: false :: false :: false :: false :: false :: false :: false :: false :: false :: false :: false :: false :: false :: false :: false :: false :: false :: false :: false :: false :: false :: false :: false :: false :: false :: false :: true :: true :: true :: false :: false :: false :: false :: false :: false :: false :: false :: false :: false :: false :: false :: false :: false :: false :: false :: false :: [])
              · (try dsimp only [maskT]); try exact rfl
              · rfl
              · omega
              exact ⟨j + 1, by (rw [ordFj_step hx]) <;> rfl, by omega, rfl, by rw [ordFj_step hx]; exact (((hr.push.setB hr.nb).step _).step _).step _⟩
            · skip
              (try simp only [decide_eq_true_eq, decide_eq_false_iff_not, beq_iff_eq, beq_eq_false_iff_ne, Bool.not_eq_true', Bool.not_eq_false', bne_iff_ne, ne_eq, Decidable.not_not, bne_eq_false_iff_eq, List.length_map] at hc8)
              (try simp only [List.length_map] at hc8)
              have hje : j = fs.length := by omega
              subst hje
              refine aw_exit ?_
              refine then_exit (again_exit (inBlock_here (then_normal ?_)))
              refine aw_seq ?_
              refine aw_region ?_
              apply al_stepN
              · exact op_move_tmp (by rfl)
              · rfl
              · (try dsimp only [zS, zN, zH, zT]); try exact rfl
              apply al_stepN
              · exact op_lit Try.underlying22 ZS5 (.cons (by rfl) (.nil _)) (by rfl) (by simp [BY, S, I, TF, DV.cells]) (by simp [flat, BY, S, I, TF, DV.cells, DV.one]) (by decide)
              · rfl
              · (try dsimp only [zS, zN, zH, zT]); try exact rfl
              apply al_stepN
              · exact op_appendT [1] Try.underlying22 Inf5 (by rfl) (by rfl) (.list _ _ _ _ Try.underlying22 (LL.own _ _ _)) (by rfl) hr.ok (by simp) (by simp; omega)
              · rfl
              · (try dsimp only [zS, zN, zH, zT]); try exact rfl
              apply al_stepN
              · exact op_assign_tmp (by rfl)
              · rfl
              · (try dsimp only [zS, zN, zH, zT]); try exact rfl
              apply al_end
              · (try dsimp only [zS, zN, zH, zT]); try exact rfl
              refine then_normal ?_
              refine aw_ret ?_
              refine inBlock_ret (then_ret ?_)
              refine retPost1 rfl rfl ?_
              have e : ordFj bs fs fs.length ++ [1] = bs ++ ordV (.mk 5 y i tx ls fs) := by exact ordFj_full
              rw [← e]
              exact ⟨rfl, hr.step _⟩
          · skip
            (try simp only [decide_eq_true_eq, decide_eq_false_iff_not, beq_iff_eq, beq_eq_false_iff_ne, Bool.not_eq_true', Bool.not_eq_false', bne_iff_ne, ne_eq, Decidable.not_not, bne_eq_false_iff_eq, List.length_map] at hc7)
            have hk5 : ¬ k = 5 := hc7
            refine aw_skip ?_
            refine inBlock_normal (then_normal ?_)
            refine aw_seq ?_
            refine aw_region ?_
            apply al_stepN
            · exact op_move_tmp (by rfl)
            · rfl
            · (try dsimp only [zS, zN, zH, zT]); try exact rfl
            apply al_stepN
            · exact op_assign_tmp (by rfl)
            · rfl
            · (try dsimp only [zS, zN, zH, zT]); try exact rfl
            apply al_end
            · (try dsimp only [zS, zN, zH, zT]); try exact rfl
            refine then_normal ?_
            refine aw_ret ?_
            refine retPost1 rfl rfl ?_
            have e : (bs ++ [UInt8.ofNat (k.toNat + 2)]) = bs ++ ordV (.mk k y i tx ls fs) := by rw [hE]; simp [hk1, hk2, hk3, hk4, hk5]
            rw [← e]
            exact ⟨rfl, hr⟩
theorem ordV_ok : ∀ (d : Nat) (v : V), rightV d v = true → WfV v → ∀ (Hs : HS) (t : Option Nat) (w : AV) (bs : List UInt8), App w t 1 (bs.map BY) → Hs.ok t bs.length → bs.length + (ordV v).length ≤ 1000000000 → ACalls Try.prog 24 [w, .d (.agg (vC v))] Hs (Ret (ownB Hs t (bs ++ ordV v)) (upB Hs t (bs ++ ordV v)))
  | 0, _, h, _, _, _, _, _, _, _, _ => by simp [rightV] at h
  | d + 1, .mk k y i tx ls fs, h, hw, Hs, t, w, bs, ha, hok, hB => by
    obtain ⟨h1, h2, h3, _⟩ := right_only h
    obtain ⟨h0, h5, _, _⟩ := only_list h1
    rw [v6D_eq]
    exact ordV_step Hs t w bs k y i tx ls fs h0 h5 hw.n ha hok hB (fun x hx Hs t w bs a b c => ordV_ok d x (h3 x hx) (hw.l x hx) Hs t w bs a b c) (fun x hx Hs t w bs a b c => ordV_ok d x.val (h2 x hx) (hw.f x hx) Hs t w bs a b c)
end Go.Proofs.Ytlphmahlchgafaa
