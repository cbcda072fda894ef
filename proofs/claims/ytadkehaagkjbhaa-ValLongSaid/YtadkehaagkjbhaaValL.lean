/- What the functions of layer 2 that write come to. -/
import Derived.Test.YtadkehaagkjbhaaOctV
import Derived.Test.YtadkehaagkjbhaaValAV2
import Derived.KernelRfl
namespace Go.Proofs.Ytadkehaagkjbhaa
open Go.AV Go.AV.Ord Go.AV.Oct Go.AV.Val
set_option linter.unusedVariables false
set_option linter.unusedSimpArgs false
/- A number with a sign as one without. -/
set_option maxRecDepth 100000 in
theorem zig_ok (Hs : HS) (n : Int) (hi : i64 n) : ACalls Try.prog 114 [.d (.v (.int .i64 n))] Hs (Ret (.d (.v (.int .u64 (zigN n)))) Hs) := by
  refine acalls_of_aw Try.func114 rfl ?_
  refine aw_start (T' := [.d (.v (.int .i64 n)), .un, .un, .un, .un, .un, .un, .un, .un, .un]) rfl ?_
  refine aw_seq ?_
  refine aw_region ?_
  apply al_stepN
  · exact op_assign_const (by rfl)
  · rfl
  · (try dsimp only [zS, zN, zH, zT]); try exact rfl
  apply al_end
  · (try dsimp only [zS, zN, zH, zT]); try exact rfl
  refine then_normal ?_
  refine aw_seq ?_
  refine aw_region ?_
  apply al_stepN
  · exact op_move_tmp (by rfl)
  · rfl
  · (try dsimp only [zS, zN, zH, zT]); try exact rfl
  apply al_stepN
  · exact op_convI (by rw [Try.underlying2]; rfl) Try.underlying151 (by rfl) (by rfl)
  · rfl
  · (try dsimp only [zS, zN, zH, zT]); try exact rfl
  apply al_stepN
  · exact op_shl (by rfl) (by rfl) (by omega) (by rfl)
  · rfl
  · (try dsimp only [zS, zN, zH, zT]); try exact rfl
  apply al_stepN
  · exact op_move_tmp (by rfl)
  · rfl
  · (try dsimp only [zS, zN, zH, zT]); try exact rfl
  apply al_stepN
  · exact op_shr (by rfl) (by rfl) (by omega) (by rfl)
  · rfl
  · (try dsimp only [zS, zN, zH, zT]); try exact rfl
  apply al_stepN
  · exact op_convI (by rw [Try.underlying2]; rfl) Try.underlying151 (by rfl) (by rfl)
  · rfl
  · (try dsimp only [zS, zN, zH, zT]); try exact rfl
  apply al_stepN
  · exact op_xor (by rfl) (by rfl) (zig_bits hi)
  · rfl
  · (try dsimp only [zS, zN, zH, zT]); try exact rfl
  apply al_stepN
  · exact op_assign_tmp (by rfl)
  · rfl
  · (try dsimp only [zS, zN, zH, zT]); try exact rfl
  apply al_end
  · (try dsimp only [zS, zN, zH, zT]); try exact rfl
  refine then_normal ?_
  refine aw_ret ?_
  refine retPost1 rfl rfl ?_
  exact ⟨rfl, rfl⟩
/- A value is written. -/
set_option maxHeartbeats 1000000 in
set_option maxRecDepth 100000 in
theorem lay_step (Hs : HS) (t : Option Nat) (w : AV) (bs : List UInt8) (k : Int) (y : Bool) (i : Int) (tx : List UInt8) (ls : List V) (fs : List F) (h0 : 0 ≤ k) (h5 : k ≤ 5) (hi : i64 i) (hw : App w t 1 (bs.map BY)) (hok : Hs.ok t bs.length) (hB : bs.length + (encV (.mk k y i tx ls fs)).length ≤ 1000000000) (ihL : ∀ x ∈ ls, ∀ (Hs : HS) (t : Option Nat) (w : AV) (bs : List UInt8), App w t 1 (bs.map BY) → Hs.ok t bs.length → bs.length + (encV x).length ≤ 1000000000 → ACalls Try.prog 87 [.d (.agg (vC x)), w] Hs (Ret (ownB Hs t (bs ++ encV x)) (upB Hs t (bs ++ encV x)))) (ihF : ∀ x ∈ fs, ∀ (Hs : HS) (t : Option Nat) (w : AV) (bs : List UInt8), App w t 1 (bs.map BY) → Hs.ok t bs.length → bs.length + (encV x.val).length ≤ 1000000000 → ACalls Try.prog 87 [.d (.agg (vC x.val)), w] Hs (Ret (ownB Hs t (bs ++ encV x.val)) (upB Hs t (bs ++ encV x.val)))) : ACalls Try.prog 87 [.d (.agg (v6D k y i tx ls fs)), w] Hs (Ret (ownB Hs t (bs ++ encV (.mk k y i tx ls fs))) (upB Hs t (bs ++ encV (.mk k y i tx ls fs)))) := by
  refine ACalls.tidyW ?_
  have hE := encV_mk k y i tx ls fs
  refine acalls_of_aw Try.func87 rfl ?_
  refine aw_start (T' := ((.d (.agg (v6D k y i tx ls fs))) :: w :: .un :: .un :: .un :: .un :: .un :: .un :: .un :: .un :: .un :: .un :: .un :: .un :: .un :: .un :: .un :: .un :: .un :: .un :: .un :: .un :: .un :: .un :: .un :: .un :: .un :: .un :: .un :: .un :: .un :: .un :: .un :: .un :: .un :: .un :: .un :: .un :: .un :: .un :: .un :: .un :: .un :: .un :: .un :: .un :: .un :: .un :: .un :: .un :: .un :: .un :: .un :: .un :: .un :: .un :: .un :: .un :: .un :: .un :: .un :: .un :: .un :: .un :: .un :: .un :: .un :: .un :: .un :: .un :: .un :: .un :: .un :: .un :: .un :: .un :: .un :: .un :: .un :: .un :: .un :: .un :: .un :: .un :: .un :: [])) rfl ?_
  refine aw_seq ?_
  refine aw_region ?_
  apply al_stepN
  · exact op_box_elt (by rfl) (by rfl)
  · rfl
  · (try dsimp only [zS, zN, zH, zT]); try exact rfl
  apply al_stepN
  · exact op_assign_const (by rfl)
  · rfl
  · (try dsimp only [zS, zN, zH, zT]); try exact rfl
  apply al_end
  · (try dsimp only [zS, zN, zH, zT]); try exact rfl
  refine then_normal ?_
  apply aw_cutF (fun T H => ∃ (u : Unit), T = (.un :: (ownB Hs t (bs ++ [UInt8.ofNat k.toNat])) :: (.elt (v6D k y i tx ls fs)) :: .un :: .un :: .un :: .un :: .un :: .un :: .un :: .un :: .un :: .un :: .un :: .un :: .un :: .un :: .un :: .un :: .un :: .un :: .un :: .un :: .un :: .un :: .un :: .un :: .un :: .un :: .un :: .un :: .un :: .un :: .un :: .un :: .un :: .un :: .un :: .un :: .un :: .un :: .un :: .un :: .un :: .un :: .un :: .un :: .un :: .un :: .un :: .un :: .un :: .un :: .un :: .un :: .un :: .un :: .un :: .un :: .un :: .un :: .un :: .un :: .un :: .un :: .un :: .un :: .un :: .un :: .un :: .un :: .un :: .un :: .un :: .un :: .un :: .un :: .un :: .un :: .un :: .un :: .un :: .un :: .un :: .un :: []) ∧ Wr Hs t H (bs ++ [UInt8.ofNat k.toNat]))
  · skip
    refine aw_region ?_
    apply al_stepN
    · exact op_move_tmp (by rfl)
    · rfl
    · (try dsimp only [zS, zN, zH, zT]); try exact rfl
    apply al_stepN
    · first | exact op_fieldAddr_ptr Try.underlying37 rfl Sz33 (by rfl) (by rfl) | exact op_fieldAddr_elt Try.underlying37 rfl Sz33 (by rfl) (by rfl) (by rfl)
    · rfl
    · (try dsimp only [zS, zN, zH, zT]); try exact rfl
    apply al_stepN
    · first | exact op_load_elt Try.underlying33 (by rfl) (by rfl) (by rfl) | exact op_load_ptr Try.underlying33 (by rfl) (by rfl) (by first | exact hPhi | exact setB_at push_at) (by rfl)
    · rfl
    · (try dsimp only [zS, zN, zH, zT]); try exact rfl
    apply al_stepN
    · exact op_convI (by rw [Try.underlying33]; rfl) Try.underlying5 (by rfl) (conv_kind h0 h5)
    · rfl
    · (try dsimp only [zS, zN, zH, zT]); try exact rfl
    apply al_stepN
    · exact op_lit Try.underlying86 ZS5 (.cons (by rfl) (.nil _)) (by rfl) (by simp [BY, S, I, TF, DV.cells]) (by simp [flat, BY, S, I, TF, DV.cells, DV.one]) (by decide)
    · rfl
    · (try dsimp only [zS, zN, zH, zT]); try exact rfl
    apply al_stepN
    · exact op_append Try.underlying86 Inf5 (by rfl) hw (.list _ _ _ _ Try.underlying86 (LL.own _ _ _)) (by simpa using hok) (by simp) (by simp; omega) (by simp; omega)
    · rfl
    · (try dsimp only [zS, zN, zH, zT]); try exact rfl
    apply al_stepN
    · exact op_assign_tmp (by rfl)
    · rfl
    · (try dsimp only [zS, zN, zH, zT]); try exact rfl
    apply al_end
    · (try dsimp only [zS, zN, zH, zT]); try exact rfl
    apply cut_to (false :: true :: true :: false :: false :: false :: false :: false :: false :: false :: false :: false :: false :: false :: false :: false :: false :: false :: false :: false :: false :: false :: false :: false :: false :: false :: false :: false :: false :: false :: false :: false :: false :: false :: false :: false :: false :: false :: false :: false :: false :: false :: false :: false :: false :: false :: false :: false :: false :: false :: false :: false :: false :: false :: false :: false :: false :: false :: false :: false :: false :: false :: false :: false :: false :: false :: false :: false :: false :: false :: false :: false :: false :: false :: false :: false :: false :: false :: false :: false :: false :: false :: false :: false :: false :: [])
    · (try dsimp only [maskT]); try exact rfl
    · rfl
    exact ⟨(), by (simp [ownB, BY, DV.cells]), (by have h := Wr.start hok (bs ++ [UInt8.ofNat k.toNat]); simpa [upB] using h)⟩
  rintro T H ⟨u, rfl, hr⟩
  apply aw_cutF (fun T H => ∃ (l : List UInt8), T = (.un :: (ownB Hs t l) :: .un :: .un :: .un :: .un :: .un :: .un :: .un :: .un :: .un :: .un :: .un :: .un :: .un :: .un :: .un :: .un :: .un :: .un :: .un :: .un :: .un :: .un :: .un :: .un :: .un :: .un :: .un :: .un :: .un :: .un :: .un :: .un :: .un :: .un :: .un :: .un :: .un :: .un :: .un :: .un :: .un :: .un :: .un :: .un :: .un :: .un :: .un :: .un :: .un :: .un :: .un :: .un :: .un :: .un :: .un :: .un :: .un :: .un :: .un :: .un :: .un :: .un :: .un :: .un :: .un :: .un :: .un :: .un :: .un :: .un :: .un :: .un :: .un :: .un :: .un :: .un :: .un :: .un :: .un :: .un :: .un :: .un :: .un :: []) ∧ Wr Hs t H l ∧ l = bs ++ encV (.mk k y i tx ls fs))
  · skip
    refine aw_seq ?_
    refine aw_region ?_
    apply al_stepN
    · first | exact op_fieldAddr_ptr Try.underlying37 rfl Sz33 (by rfl) (by rfl) | exact op_fieldAddr_elt Try.underlying37 rfl Sz33 (by rfl) (by rfl) (by rfl)
    · rfl
    · (try dsimp only [zS, zN, zH, zT]); try exact rfl
    apply al_stepN
    · first | exact op_load_elt Try.underlying33 (by rfl) (by rfl) (by rfl) | exact op_load_ptr Try.underlying33 (by rfl) (by rfl) (by first | exact hPhi | exact setB_at push_at) (by rfl)
    · rfl
    · (try dsimp only [zS, zN, zH, zT]); try exact rfl
    apply al_end
    · (try dsimp only [zS, zN, zH, zT]); try exact rfl
    refine then_normal ?_
    refine aw_block ?_
    refine aw_seq ?_
    refine aw_region ?_
    apply al_stepN
    · exact op_eqI (by rfl) (by rfl)
    · rfl
    · (try dsimp only [zS, zN, zH, zT]); try exact rfl
    apply al_stepN
    · exact op_assign_tmp (by rfl)
    · rfl
    · (try dsimp only [zS, zN, zH, zT]); try exact rfl
    apply al_end
    · (try dsimp only [zS, zN, zH, zT]); try exact rfl
    refine then_normal ?_
    refine aw_cond rfl (fun hc1 => ?_) (fun hc1 => ?_)
    · skip
      (try simp only [decide_eq_true_eq, decide_eq_false_iff_not, beq_iff_eq, beq_eq_false_iff_ne, Bool.not_eq_true', Bool.not_eq_false', bne_iff_ne, ne_eq, Decidable.not_not, bne_eq_false_iff_eq, List.length_map] at hc1)
      have hk1 : k = 1 := hc1
      rw [if_pos hk1] at hE
      have hl2 := congrArg List.length hE
      simp [flagB] at hl2
      refine aw_region ?_
      apply al_stepN
      · exact op_move_tmp (by rfl)
      · rfl
      · (try dsimp only [zS, zN, zH, zT]); try exact rfl
      apply al_stepN
      · first | exact op_fieldAddr_ptr Try.underlying37 rfl Sz4 (by rfl) (by rfl) | exact op_fieldAddr_elt Try.underlying37 rfl Sz4 (by rfl) (by rfl) (by rfl)
      · rfl
      · (try dsimp only [zS, zN, zH, zT]); try exact rfl
      apply al_stepN
      · first | exact op_load_elt Try.underlying4 (by rfl) (by rfl) (by rfl) | exact op_load_ptr Try.underlying4 (by rfl) (by rfl) (by first | exact hPhi | exact setB_at push_at) (by rfl)
      · rfl
      · (try dsimp only [zS, zN, zH, zT]); try exact rfl
      apply al_stepN
      · exact op_callF Try.func64 (by rfl) (by rfl) (.tmp (by rfl) (.tmp (by rfl) .nil)) (oflag_ok H (some (Hs.tk t)) _ (bs ++ [UInt8.ofNat k.toNat]) y (App.own _ _ _) hr.ok (by simp; omega))
      · rfl
      · (try dsimp only [zS, zN, zH, zT]); try exact rfl
      apply al_stepN
      · exact op_assign_tmp (by rfl)
      · rfl
      · (try dsimp only [zS, zN, zH, zT]); try exact rfl
      apply al_end
      · (try dsimp only [zS, zN, zH, zT]); try exact rfl
      refine inBlock_normal ?_
      apply cut_to (false :: true :: false :: false :: false :: false :: false :: false :: false :: false :: false :: false :: false :: false :: false :: false :: false :: false :: false :: false :: false :: false :: false :: false :: false :: false :: false :: false :: false :: false :: false :: false :: false :: false :: false :: false :: false :: false :: false :: false :: false :: false :: false :: false :: false :: false :: false :: false :: false :: false :: false :: false :: false :: false :: false :: false :: false :: false :: false :: false :: false :: false :: false :: false :: false :: false :: false :: false :: false :: false :: false :: false :: false :: false :: false :: false :: false :: false :: false :: false :: false :: false :: false :: false :: false :: [])
      · (try dsimp only [maskT]); try exact rfl
      · rfl
      exact ⟨_, rfl, hr.step _, by rw [hE]; simp⟩
    · skip
      (try simp only [decide_eq_true_eq, decide_eq_false_iff_not, beq_iff_eq, beq_eq_false_iff_ne, Bool.not_eq_true', Bool.not_eq_false', bne_iff_ne, ne_eq, Decidable.not_not, bne_eq_false_iff_eq, List.length_map] at hc1)
      have hk1 : ¬ k = 1 := hc1
      refine aw_seq ?_
      refine aw_region ?_
      apply al_stepN
      · exact op_eqI (by rfl) (by rfl)
      · rfl
      · (try dsimp only [zS, zN, zH, zT]); try exact rfl
      apply al_stepN
      · exact op_assign_tmp (by rfl)
      · rfl
      · (try dsimp only [zS, zN, zH, zT]); try exact rfl
      apply al_end
      · (try dsimp only [zS, zN, zH, zT]); try exact rfl
      refine then_normal ?_
      refine aw_cond rfl (fun hc2 => ?_) (fun hc2 => ?_)
      · skip
        (try simp only [decide_eq_true_eq, decide_eq_false_iff_not, beq_iff_eq, beq_eq_false_iff_ne, Bool.not_eq_true', Bool.not_eq_false', bne_iff_ne, ne_eq, Decidable.not_not, bne_eq_false_iff_eq, List.length_map] at hc2)
        have hk2 : k = 2 := hc2
        rw [if_neg hk1, if_pos hk2, intB] at hE
        have hl2 := congrArg List.length hE
        simp [numB_len] at hl2
        have hz := zig_lt (n := i) (by unfold i64 at hi; omega) (by unfold i64 at hi; omega)
        refine aw_seq ?_
        refine aw_region ?_
        apply al_stepN
        · first | exact op_fieldAddr_ptr Try.underlying37 rfl Sz2 (by rfl) (by rfl) | exact op_fieldAddr_elt Try.underlying37 rfl Sz2 (by rfl) (by rfl) (by rfl)
        · rfl
        · (try dsimp only [zS, zN, zH, zT]); try exact rfl
        apply al_stepN
        · first | exact op_load_elt Try.underlying2 (by rfl) (by rfl) (by rfl) | exact op_load_ptr Try.underlying2 (by rfl) (by rfl) (by first | exact hPhi | exact setB_at push_at) (by rfl)
        · rfl
        · (try dsimp only [zS, zN, zH, zT]); try exact rfl
        apply al_stepN
        · exact op_callF Try.func114 (by rfl) (by rfl) (.tmp (by rfl) .nil) (zig_ok _ i hi)
        · rfl
        · (try dsimp only [zS, zN, zH, zT]); try exact rfl
        apply al_stepN
        · exact op_assign_tmp (by rfl)
        · rfl
        · (try dsimp only [zS, zN, zH, zT]); try exact rfl
        apply al_end
        · (try dsimp only [zS, zN, zH, zT]); try exact rfl
        refine then_normal ?_
        refine aw_region ?_
        apply al_stepN
        · exact op_move_tmp (by rfl)
        · rfl
        · (try dsimp only [zS, zN, zH, zT]); try exact rfl
        apply al_stepN
        · exact op_move_tmp (by rfl)
        · rfl
        · (try dsimp only [zS, zN, zH, zT]); try exact rfl
        apply al_stepN
        · exact op_shr (by rfl) (by rfl) (by omega) (shr32 _)
        · rfl
        · (try dsimp only [zS, zN, zH, zT]); try exact rfl
        apply al_stepN
        · exact op_convI (by rw [Try.underlying151]; rfl) Try.underlying3 (by rfl) (wrap_i64 ⟨by omega, by omega⟩)
        · rfl
        · (try dsimp only [zS, zN, zH, zT]); try exact rfl
        apply al_stepN
        · exact op_callF Try.func63 (by rfl) (by rfl) (.tmp (by rfl) (.tmp (by rfl) .nil)) (onum_ok H (some (Hs.tk t)) _ (bs ++ [UInt8.ofNat k.toNat]) ((zigN i / 4294967296 : Nat) : Int) (App.own _ _ _) hr.ok (by omega) (by simp; omega))
        · rfl
        · (try dsimp only [zS, zN, zH, zT]); try exact rfl
        apply al_stepN
        · exact op_move_tmp (by rfl)
        · rfl
        · (try dsimp only [zS, zN, zH, zT]); try exact rfl
        apply al_stepN
        · exact op_and (by rfl) (by rfl) (and32 hz)
        · rfl
        · (try dsimp only [zS, zN, zH, zT]); try exact rfl
        apply al_stepN
        · exact op_convI (by rw [Try.underlying151]; rfl) Try.underlying3 (by rfl) (wrap_i64 ⟨by omega, by omega⟩)
        · rfl
        · (try dsimp only [zS, zN, zH, zT]); try exact rfl
        apply al_stepN
        · exact op_callF Try.func63 (by rfl) (by rfl) (.tmp (by rfl) (.tmp (by rfl) .nil)) (onum_ok _ (some (Hs.tk t)) _ ((bs ++ [UInt8.ofNat k.toNat]) ++ numB (zigN i / 4294967296)) ((zigN i % 4294967296 : Nat) : Int) (App.own _ _ _) (hr.step _).ok (by omega) (by simp [numB_len]; omega))
        · rfl
        · (try dsimp only [zS, zN, zH, zT]); try exact rfl
        apply al_stepN
        · exact op_assign_tmp (by rfl)
        · rfl
        · (try dsimp only [zS, zN, zH, zT]); try exact rfl
        apply al_end
        · (try dsimp only [zS, zN, zH, zT]); try exact rfl
        refine inBlock_normal ?_
        apply cut_to (false :: true :: false :: false :: false :: false :: false :: false :: false :: false :: false :: false :: false :: false :: false :: false :: false :: false :: false :: false :: false :: false :: false :: false :: false :: false :: false :: false :: false :: false :: false :: false :: false :: false :: false :: false :: false :: false :: false :: false :: false :: false :: false :: false :: false :: false :: false :: false :: false :: false :: false :: false :: false :: false :: false :: false :: false :: false :: false :: false :: false :: false :: false :: false :: false :: false :: false :: false :: false :: false :: false :: false :: false :: false :: false :: false :: false :: false :: false :: false :: false :: false :: false :: false :: false :: [])
        · (try dsimp only [maskT]); try exact rfl
        · rfl
        exact ⟨(bs ++ [UInt8.ofNat k.toNat] ++ numB (zigN i / 4294967296) ++ numB (zigN i % 4294967296)), rfl, (hr.step _).step _, by rw [hE]; simp⟩
      · skip
        (try simp only [decide_eq_true_eq, decide_eq_false_iff_not, beq_iff_eq, beq_eq_false_iff_ne, Bool.not_eq_true', Bool.not_eq_false', bne_iff_ne, ne_eq, Decidable.not_not, bne_eq_false_iff_eq, List.length_map] at hc2)
        have hk2 : ¬ k = 2 := hc2
        refine aw_seq ?_
        refine aw_region ?_
        apply al_stepN
        · exact op_eqI (by rfl) (by rfl)
        · rfl
        · (try dsimp only [zS, zN, zH, zT]); try exact rfl
        apply al_stepN
        · exact op_assign_tmp (by rfl)
        · rfl
        · (try dsimp only [zS, zN, zH, zT]); try exact rfl
        apply al_end
        · (try dsimp only [zS, zN, zH, zT]); try exact rfl
        refine then_normal ?_
        refine aw_cond rfl (fun hc3 => ?_) (fun hc3 => ?_)
        · skip
          (try simp only [decide_eq_true_eq, decide_eq_false_iff_not, beq_iff_eq, beq_eq_false_iff_ne, Bool.not_eq_true', Bool.not_eq_false', bne_iff_ne, ne_eq, Decidable.not_not, bne_eq_false_iff_eq, List.length_map] at hc3)
          have hk3 : k = 3 := hc3
          rw [if_neg hk1, if_neg hk2, if_pos hk3] at hE
          have hl2 := congrArg List.length hE
          simp [textB, numB_len] at hl2
          refine aw_region ?_
          apply al_stepN
          · exact op_move_tmp (by rfl)
          · rfl
          · (try dsimp only [zS, zN, zH, zT]); try exact rfl
          apply al_stepN
          · first | exact op_fieldAddr_ptr Try.underlying37 rfl Sz9 (by rfl) (by rfl) | exact op_fieldAddr_elt Try.underlying37 rfl Sz9 (by rfl) (by rfl) (by rfl)
          · rfl
          · (try dsimp only [zS, zN, zH, zT]); try exact rfl
          apply al_stepN
          · first | exact op_load_elt Try.underlying9 (by rfl) (by rfl) (by rfl) | exact op_load_ptr Try.underlying9 (by rfl) (by rfl) (by first | exact hPhi | exact setB_at push_at) (by rfl)
          · rfl
          · (try dsimp only [zS, zN, zH, zT]); try exact rfl
          apply al_stepN
          · exact op_callF Try.func65 (by rfl) (by rfl) (.tmp (by rfl) (.tmp (by rfl) .nil)) (otext_ok H (some (Hs.tk t)) _ (bs ++ [UInt8.ofNat k.toNat]) tx (App.own _ _ _) hr.ok (by simp; omega))
          · rfl
          · (try dsimp only [zS, zN, zH, zT]); try exact rfl
          apply al_stepN
          · exact op_assign_tmp (by rfl)
          · rfl
          · (try dsimp only [zS, zN, zH, zT]); try exact rfl
          apply al_end
          · (try dsimp only [zS, zN, zH, zT]); try exact rfl
          refine inBlock_normal ?_
          apply cut_to (false :: true :: false :: false :: false :: false :: false :: false :: false :: false :: false :: false :: false :: false :: false :: false :: false :: false :: false :: false :: false :: false :: false :: false :: false :: false :: false :: false :: false :: false :: false :: false :: false :: false :: false :: false :: false :: false :: false :: false :: false :: false :: false :: false :: false :: false :: false :: false :: false :: false :: false :: false :: false :: false :: false :: false :: false :: false :: false :: false :: false :: false :: false :: false :: false :: false :: false :: false :: false :: false :: false :: false :: false :: false :: false :: false :: false :: false :: false :: false :: false :: false :: false :: false :: false :: [])
          · (try dsimp only [maskT]); try exact rfl
          · rfl
          exact ⟨_, rfl, hr.step _, by rw [hE]; simp⟩
        · skip
          (try simp only [decide_eq_true_eq, decide_eq_false_iff_not, beq_iff_eq, beq_eq_false_iff_ne, Bool.not_eq_true', Bool.not_eq_false', bne_iff_ne, ne_eq, Decidable.not_not, bne_eq_false_iff_eq, List.length_map] at hc3)
          have hk3 : ¬ k = 3 := hc3
          refine aw_seq ?_
          refine aw_region ?_
          apply al_stepN
          · exact op_eqI (by rfl) (by rfl)
          · rfl
          · (try dsimp only [zS, zN, zH, zT]); try exact rfl
          apply al_stepN
          · exact op_assign_tmp (by rfl)
          · rfl
          · (try dsimp only [zS, zN, zH, zT]); try exact rfl
          apply al_end
          · (try dsimp only [zS, zN, zH, zT]); try exact rfl
          refine then_normal ?_
          refine aw_cond rfl (fun hc4 => ?_) (fun hc4 => ?_)
          · skip
            (try simp only [decide_eq_true_eq, decide_eq_false_iff_not, beq_iff_eq, beq_eq_false_iff_ne, Bool.not_eq_true', Bool.not_eq_false', bne_iff_ne, ne_eq, Decidable.not_not, bne_eq_false_iff_eq, List.length_map] at hc4)
            have hk4 : k = 4 := hc4
            subst hk4
            have hl2 := list_small (y := y) (i := i) (tx := tx) (ls := ls) (fs := fs)
            refine aw_seq ?_
            refine aw_region ?_
            apply al_stepN
            · exact op_move_tmp (by rfl)
            · rfl
            · (try dsimp only [zS, zN, zH, zT]); try exact rfl
            apply al_stepN
            · first | exact op_fieldAddr_ptr Try.underlying37 rfl Sz34 (by rfl) (by rfl) | exact op_fieldAddr_elt Try.underlying37 rfl Sz34 (by rfl) (by rfl) (by rfl)
            · rfl
            · (try dsimp only [zS, zN, zH, zT]); try exact rfl
            apply al_stepN
            · first | exact op_load_elt Try.underlying34 (by rfl) (by rfl) (by rfl) | exact op_load_ptr Try.underlying34 (by rfl) (by rfl) (by first | exact hPhi | exact setB_at push_at) (by rfl)
            · rfl
            · (try dsimp only [zS, zN, zH, zT]); try exact rfl
            apply al_stepN
            · exact op_lenL Try.underlying34 (by first | exact LL.d _ _ | exact LL.own _ _ _ | exact LL.nil _ | assumption)
            · rfl
            · (try dsimp only [zS, zN, zH, zT]); try exact rfl
            apply al_stepN
            · exact op_callF Try.func63 (by rfl) (by rfl) (.tmp (by rfl) (.tmp (by rfl) .nil)) (onum_ok H (some (Hs.tk t)) _ (bs ++ [UInt8.ofNat (4 : Int).toNat]) ((ls.map vD).length : Int) (App.own _ _ _) hr.ok (by simp; omega) (by simp; omega))
            · rfl
            · (try dsimp only [zS, zN, zH, zT]); try exact rfl
            apply al_stepN
            · exact op_assign_tmp (by rfl)
            · rfl
            · (try dsimp only [zS, zN, zH, zT]); try exact rfl
            apply al_end
            · (try dsimp only [zS, zN, zH, zT]); try exact rfl
            refine then_normal ?_
            refine aw_seq ?_
            refine aw_region ?_
            apply al_stepN
            · first | exact op_fieldAddr_ptr Try.underlying37 rfl Sz34 (by rfl) (by rfl) | exact op_fieldAddr_elt Try.underlying37 rfl Sz34 (by rfl) (by rfl) (by rfl)
            · rfl
            · (try dsimp only [zS, zN, zH, zT]); try exact rfl
            apply al_stepN
            · first | exact op_load_elt Try.underlying34 (by rfl) (by rfl) (by rfl) | exact op_load_ptr Try.underlying34 (by rfl) (by rfl) (by first | exact hPhi | exact setB_at push_at) (by rfl)
            · rfl
            · (try dsimp only [zS, zN, zH, zT]); try exact rfl
            apply al_stepN
            · exact op_lenL Try.underlying34 (by first | exact LL.d _ _ | exact LL.own _ _ _ | exact LL.nil _ | assumption)
            · rfl
            · (try dsimp only [zS, zN, zH, zT]); try exact rfl
            apply al_stepN
            · exact op_move_const (by rfl)
            · rfl
            · (try dsimp only [zS, zN, zH, zT]); try exact rfl
            apply al_end
            · (try dsimp only [zS, zN, zH, zT]); try exact rfl
            refine then_normal ?_
            refine aw_block ?_
            apply aw_loopF (fun n T H => ∃ (j : Nat), T = (.un :: (ownB Hs t (encLj bs ls j)) :: .un :: .un :: .un :: .un :: .un :: .un :: .un :: .un :: .un :: .un :: .un :: .un :: .un :: .un :: .un :: .un :: .un :: .un :: .un :: .un :: .un :: .un :: .un :: .un :: .un :: .un :: .un :: .un :: .un :: .un :: .un :: .un :: .un :: .un :: .un :: .un :: .un :: .un :: .un :: .un :: .un :: .un :: .un :: .un :: .un :: .un :: .un :: .un :: .un :: .un :: (.d (.lst 6 (ls.map vD))) :: (.d (I (ls.map vD).length)) :: (.d (I j)) :: .un :: .un :: .un :: .un :: .un :: .un :: .un :: .un :: .un :: .un :: .un :: .un :: .un :: .un :: .un :: .un :: .un :: .un :: .un :: .un :: .un :: .un :: .un :: .un :: .un :: .un :: .un :: .un :: .un :: .un :: []) ∧ j ≤ ls.length ∧ n = ls.length - j ∧ Wr Hs t H (encLj bs ls j)) (ls.length) (false :: true :: false :: false :: false :: false :: false :: false :: false :: false :: false :: false :: false :: false :: false :: false :: false :: false :: false :: false :: false :: false :: false :: false :: false :: false :: false :: false :: false :: false :: false :: false :: false :: false :: false :: false :: false :: false :: false :: false :: false :: false :: false :: false :: false :: false :: false :: false :: false :: false :: false :: false :: true :: true :: true :: false :: false :: false :: false :: false :: false :: false :: false :: false :: false :: false :: false :: false :: false :: false :: false :: false :: false :: false :: false :: false :: false :: false :: false :: false :: false :: false :: false :: false :: false :: [])
            · (try dsimp only [maskT]); try exact rfl
            · rfl
            · exact ⟨0, by (rw [encLj_0]; simp) <;> exact ⟨rfl, rfl⟩, by omega, rfl, by rw [encLj_0]; have h := hr.step (bs ++ [UInt8.ofNat 4] ++ numB ls.length); simpa using h⟩
            rintro n T H ⟨j, rfl, hj, rfl, hr⟩
            refine aw_seq ?_
            refine aw_region ?_
            apply al_stepN
            · exact op_ltI (by rfl) (by rfl)
            · rfl
            · (try dsimp only [zS, zN, zH, zT]); try exact rfl
            apply al_end
            · (try dsimp only [zS, zN, zH, zT]); try exact rfl
            refine then_normal ?_
            refine aw_seq ?_
            refine aw_cond rfl (fun hc5 => ?_) (fun hc5 => ?_)
            · skip
              (try simp only [decide_eq_true_eq, decide_eq_false_iff_not, beq_iff_eq, beq_eq_false_iff_ne, Bool.not_eq_true', Bool.not_eq_false', bne_iff_ne, ne_eq, Decidable.not_not, bne_eq_false_iff_eq, List.length_map] at hc5)
              (try simp only [List.length_map] at hc5)
              have hlt : j < ls.length := by omega
              obtain ⟨x, hx⟩ : ∃ x, ls[j]? = some x := ⟨_, List.getElem?_eq_getElem hlt⟩
              have hle := encLj_le (bs := bs) (y := y) (i := i) (tx := tx) (fs := fs) hx
              refine aw_skip ?_
              refine then_normal ?_
              refine aw_seq ?_
              refine aw_block ?_
              refine aw_seq ?_
              refine aw_region ?_
              apply al_stepN
              · exact op_indexAddr (z := vD x) (cs := [I x.kind, TF x.yes, .v (.int .i64 x.num), S x.text, .lst 6 (x.list.map vD), .lst 7 (x.fields.map fD)]) Try.underlying34 Sz37 (LL.d _ _) (by rfl) (by omega) (by rw [List.getElem?_map, show ((j : Nat) : Int).toNat = j from rfl, hx]; rfl) (vD_cells x)
              · rfl
              · (try dsimp only [zS, zN, zH, zT]); try exact rfl
              apply al_stepN
              · exact op_load_elts (ds := vC x) Try.underlying37 (by rfl) Sz37 (by rfl) (Nat.le_of_ble_eq_true rfl) (by rw [vC_eq]; rfl)
              · rfl
              · (try dsimp only [zS, zN, zH, zT]); try exact rfl
              apply al_stepN
              · exact op_alloc (Zr37) (by rfl)
              · rfl
              · (try dsimp only [zS, zN, zH, zT]); try exact rfl
              apply al_stepN
              · exact op_storeV (b' := ⟨37, (vC x).map .d, false⟩) x Sz37 (by rfl) push_at (by rfl) (Nat.le_of_ble_eq_true rfl) (by rfl) (by rw [vC_eq]; rfl)
              · rfl
              · (try dsimp only [zS, zN, zH, zT]); try exact rfl
              apply al_end
              · (try dsimp only [zS, zN, zH, zT]); try exact rfl
              refine then_normal ?_
              refine aw_region ?_
              apply al_stepN
              · exact op_load_ptrsD (vC x) Try.underlying37 (by rfl) Sz37 (by rfl) (setB_at push_at) (by show 0 + 6 ≤ ((vC x).map AV.d).length; rw [List.length_map, vC_len]; exact Nat.le_refl _) (by show (((vC x).map AV.d).drop 0).take 6 = _; rw [List.drop_zero, List.take_of_length_le (by rw [List.length_map, vC_len]; exact Nat.le_refl _)]) (vC_one x)
              · rfl
              · (try dsimp only [zS, zN, zH, zT]); try exact rfl
              apply al_stepN
              · exact op_move_tmp (by rfl)
              · rfl
              · (try dsimp only [zS, zN, zH, zT]); try exact rfl
              apply al_stepN
              · exact op_callF Try.func87 (by rfl) (by rfl) (.tmp (by rfl) (.tmp (by rfl) .nil)) (ihL x (List.mem_of_getElem? hx) _ (some (Hs.tk t)) _ (encLj bs ls j) (App.own _ _ _) hr.ok (by omega))
              · rfl
              · (try dsimp only [zS, zN, zH, zT]); try exact rfl
              apply al_stepN
              · exact op_assign_tmp (by rfl)
              · rfl
              · (try dsimp only [zS, zN, zH, zT]); try exact rfl
              apply al_end
              · (try dsimp only [zS, zN, zH, zT]); try exact rfl
              refine inBlock_normal (then_normal ?_)
              refine aw_region ?_
              apply al_stepN
              · first | exact op_add (by rfl) (by rfl) (wrap_i64 ⟨by omega, by omega⟩) | exact op_add (by rfl) (by rfl) (by rfl)
              · rfl
              · (try dsimp only [zS, zN, zH, zT]); try exact rfl
              apply al_stepN
              · exact op_move_tmp (by rfl)
              · rfl
              · (try dsimp only [zS, zN, zH, zT]); try exact rfl
              apply al_end
              · (try dsimp only [zS, zN, zH, zT]); try exact rfl
              apply again_to (ls.length - (j + 1)) (false :: true :: false :: false :: false :: false :: false :: false :: false :: false :: false :: false :: false :: false :: false :: false :: false :: false :: false :: false :: false :: false :: false :: false :: false :: false :: false :: false :: false :: false :: false :: false :: false :: false :: false :: false :: false :: false :: false :: false :: false :: false :: false :: false :: false :: false :: false :: false :: false :: false :: false :: false :: true :: true :: true :: false :: false :: false :: false :: false :: false :: false :: false :: false :: false :: false :: false :: false :: false :: false :: false :: false :: false :: false :: false :: false :: false :: false :: false :: false :: false :: false :: false :: false :: false :: [])
              · (try dsimp only [maskT]); try exact rfl
              · rfl
              · omega
              exact ⟨j + 1, by (rw [encLj_step hx]) <;> rfl, by omega, rfl, by rw [encLj_step hx]; exact (hr.push.setB hr.nb).step _⟩
            · skip
              (try simp only [decide_eq_true_eq, decide_eq_false_iff_not, beq_iff_eq, beq_eq_false_iff_ne, Bool.not_eq_true', Bool.not_eq_false', bne_iff_ne, ne_eq, Decidable.not_not, bne_eq_false_iff_eq, List.length_map] at hc5)
              (try simp only [List.length_map] at hc5)
              have hje : j = ls.length := by omega
              subst hje
              rw [encLj_full (y := y) (i := i) (tx := tx) (fs := fs)] at hr ⊢
              refine aw_exit ?_
              refine then_exit (again_exit (inBlock_here (inBlock_normal ?_)))
              apply cut_to (false :: true :: false :: false :: false :: false :: false :: false :: false :: false :: false :: false :: false :: false :: false :: false :: false :: false :: false :: false :: false :: false :: false :: false :: false :: false :: false :: false :: false :: false :: false :: false :: false :: false :: false :: false :: false :: false :: false :: false :: false :: false :: false :: false :: false :: false :: false :: false :: false :: false :: false :: false :: false :: false :: false :: false :: false :: false :: false :: false :: false :: false :: false :: false :: false :: false :: false :: false :: false :: false :: false :: false :: false :: false :: false :: false :: false :: false :: false :: false :: false :: false :: false :: false :: false :: [])
              · (try dsimp only [maskT]); try exact rfl
              · rfl
              exact ⟨_, rfl, hr, rfl⟩
          · skip
            (try simp only [decide_eq_true_eq, decide_eq_false_iff_not, beq_iff_eq, beq_eq_false_iff_ne, Bool.not_eq_true', Bool.not_eq_false', bne_iff_ne, ne_eq, Decidable.not_not, bne_eq_false_iff_eq, List.length_map] at hc4)
            have hk4 : ¬ k = 4 := hc4
            refine aw_seq ?_
            refine aw_region ?_
            apply al_stepN
            · exact op_eqI (by rfl) (by rfl)
            · rfl
            · (try dsimp only [zS, zN, zH, zT]); try exact rfl
            apply al_stepN
            · exact op_assign_tmp (by rfl)
            · rfl
            · (try dsimp only [zS, zN, zH, zT]); try exact rfl
            apply al_end
            · (try dsimp only [zS, zN, zH, zT]); try exact rfl
            refine then_normal ?_
            refine aw_cond rfl (fun hc6 => ?_) (fun hc6 => ?_)
            · skip
              (try simp only [decide_eq_true_eq, decide_eq_false_iff_not, beq_iff_eq, beq_eq_false_iff_ne, Bool.not_eq_true', Bool.not_eq_false', bne_iff_ne, ne_eq, Decidable.not_not, bne_eq_false_iff_eq, List.length_map] at hc6)
              have hk5 : k = 5 := hc6
              subst hk5
              have hl2 := fields_small (y := y) (i := i) (tx := tx) (ls := ls) (fs := fs)
              refine aw_seq ?_
              refine aw_region ?_
              apply al_stepN
              · exact op_move_tmp (by rfl)
              · rfl
              · (try dsimp only [zS, zN, zH, zT]); try exact rfl
              apply al_stepN
              · first | exact op_fieldAddr_ptr Try.underlying37 rfl Sz35 (by rfl) (by rfl) | exact op_fieldAddr_elt Try.underlying37 rfl Sz35 (by rfl) (by rfl) (by rfl)
              · rfl
              · (try dsimp only [zS, zN, zH, zT]); try exact rfl
              apply al_stepN
              · first | exact op_load_elt Try.underlying35 (by rfl) (by rfl) (by rfl) | exact op_load_ptr Try.underlying35 (by rfl) (by rfl) (by first | exact hPhi | exact setB_at push_at) (by rfl)
              · rfl
              · (try dsimp only [zS, zN, zH, zT]); try exact rfl
              apply al_stepN
              · exact op_lenL Try.underlying35 (by first | exact LL.d _ _ | exact LL.own _ _ _ | exact LL.nil _ | assumption)
              · rfl
              · (try dsimp only [zS, zN, zH, zT]); try exact rfl
              apply al_stepN
              · exact op_callF Try.func63 (by rfl) (by rfl) (.tmp (by rfl) (.tmp (by rfl) .nil)) (onum_ok H (some (Hs.tk t)) _ (bs ++ [UInt8.ofNat (5 : Int).toNat]) ((fs.map fD).length : Int) (App.own _ _ _) hr.ok (by simp; omega) (by simp; omega))
              · rfl
              · (try dsimp only [zS, zN, zH, zT]); try exact rfl
              apply al_stepN
              · exact op_assign_tmp (by rfl)
              · rfl
              · (try dsimp only [zS, zN, zH, zT]); try exact rfl
              apply al_end
              · (try dsimp only [zS, zN, zH, zT]); try exact rfl
              refine then_normal ?_
              refine aw_seq ?_
              refine aw_region ?_
              apply al_stepN
              · first | exact op_fieldAddr_ptr Try.underlying37 rfl Sz35 (by rfl) (by rfl) | exact op_fieldAddr_elt Try.underlying37 rfl Sz35 (by rfl) (by rfl) (by rfl)
              · rfl
              · (try dsimp only [zS, zN, zH, zT]); try exact rfl
              apply al_stepN
              · first | exact op_load_elt Try.underlying35 (by rfl) (by rfl) (by rfl) | exact op_load_ptr Try.underlying35 (by rfl) (by rfl) (by first | exact hPhi | exact setB_at push_at) (by rfl)
              · rfl
              · (try dsimp only [zS, zN, zH, zT]); try exact rfl
              apply al_stepN
              · exact op_lenL Try.underlying35 (by first | exact LL.d _ _ | exact LL.own _ _ _ | exact LL.nil _ | assumption)
              · rfl
              · (try dsimp only [zS, zN, zH, zT]); try exact rfl
              apply al_stepN
              · exact op_move_const (by rfl)
              · rfl
              · (try dsimp only [zS, zN, zH, zT]); try exact rfl
              apply al_end
              · (try dsimp only [zS, zN, zH, zT]); try exact rfl
              refine then_normal ?_
              refine aw_block ?_
              apply aw_loopF (fun n T H => ∃ (j : Nat), T = (.un :: (ownB Hs t (encFj bs fs j)) :: .un :: .un :: .un :: .un :: .un :: .un :: .un :: .un :: .un :: .un :: .un :: .un :: .un :: .un :: .un :: .un :: .un :: .un :: .un :: .un :: .un :: .un :: .un :: .un :: .un :: .un :: .un :: .un :: .un :: .un :: .un :: .un :: .un :: .un :: .un :: .un :: .un :: .un :: .un :: .un :: .un :: .un :: .un :: .un :: .un :: .un :: .un :: .un :: .un :: .un :: .un :: .un :: .un :: .un :: .un :: .un :: .un :: .un :: .un :: .un :: .un :: .un :: .un :: .un :: .un :: .un :: .un :: .un :: (.d (.lst 7 (fs.map fD))) :: (.d (I (fs.map fD).length)) :: (.d (I j)) :: .un :: .un :: .un :: .un :: .un :: .un :: .un :: .un :: .un :: .un :: .un :: .un :: []) ∧ j ≤ fs.length ∧ n = fs.length - j ∧ Wr Hs t H (encFj bs fs j)) (fs.length) (false :: true :: false :: false :: false :: false :: false :: false :: false :: false :: false :: false :: false :: false :: false :: false :: false :: false :: false :: false :: false :: false :: false :: false :: false :: false :: false :: false :: false :: false :: false :: false :: false :: false :: false :: false :: false :: false :: false :: false :: false :: false :: false :: false :: false :: false :: false :: false :: false :: false :: false :: false :: false :: false :: false :: false :: false :: false :: false :: false :: false :: false :: false :: false :: false :: false :: false :: false :: false :: false :: true :: true :: true :: false :: false :: false :: false :: false :: false :: false :: false :: false :: false :: false :: false :: [])
              · (try dsimp only [maskT]); try exact rfl
              · rfl
              · exact ⟨0, by (rw [encFj_0]; simp) <;> exact ⟨rfl, rfl⟩, by omega, rfl, by rw [encFj_0]; have h := hr.step (bs ++ [UInt8.ofNat 5] ++ numB fs.length); simpa using h⟩
              rintro n T H ⟨j, rfl, hj, rfl, hr⟩
              refine aw_seq ?_
              refine aw_region ?_
              apply al_stepN
              · exact op_ltI (by rfl) (by rfl)
              · rfl
              · (try dsimp only [zS, zN, zH, zT]); try exact rfl
              apply al_end
              · (try dsimp only [zS, zN, zH, zT]); try exact rfl
              refine then_normal ?_
              refine aw_seq ?_
              refine aw_cond rfl (fun hc7 => ?_) (fun hc7 => ?_)
              · skip
                (try simp only [decide_eq_true_eq, decide_eq_false_iff_not, beq_iff_eq, beq_eq_false_iff_ne, Bool.not_eq_true', Bool.not_eq_false', bne_iff_ne, ne_eq, Decidable.not_not, bne_eq_false_iff_eq, List.length_map] at hc7)
                (try simp only [List.length_map] at hc7)
                have hlt : j < fs.length := by omega
                obtain ⟨x, hx⟩ : ∃ x, fs[j]? = some x := ⟨_, List.getElem?_eq_getElem hlt⟩
                have hle := encFj_le (bs := bs) (y := y) (i := i) (tx := tx) (ls := ls) hx
                refine aw_skip ?_
                refine then_normal ?_
                refine aw_seq ?_
                refine aw_block ?_
                refine aw_seq ?_
                refine aw_region ?_
                apply al_stepN
                · exact op_indexAddr (z := fD x) (cs := [S x.name, I x.val.kind, TF x.val.yes, .v (.int .i64 x.val.num), S x.val.text, .lst 6 (x.val.list.map vD), .lst 7 (x.val.fields.map fD)]) Try.underlying35 Sz89 (LL.d _ _) (by rfl) (by omega) (by rw [List.getElem?_map, show ((j : Nat) : Int).toNat = j from rfl, hx]; rfl) (fD_cells7 x)
                · rfl
                · (try dsimp only [zS, zN, zH, zT]); try exact rfl
                apply al_stepN
                · exact op_load_elts (ds := fC x) Try.underlying89 (by rfl) Sz89 (by rfl) (Nat.le_of_ble_eq_true rfl) (by rw [← fC7]; rfl)
                · rfl
                · (try dsimp only [zS, zN, zH, zT]); try exact rfl
                apply al_stepN
                · exact op_alloc (Zr89) (by rfl)
                · rfl
                · (try dsimp only [zS, zN, zH, zT]); try exact rfl
                apply al_stepN
                · exact op_storeF (b' := f1 89 x) x Sz89 (by rfl) push_at (by rfl) (Nat.le_of_ble_eq_true rfl) (by rfl) (by unfold f1; rw [← fC7]; rfl)
                · rfl
                · (try dsimp only [zS, zN, zH, zT]); try exact rfl
                apply al_end
                · (try dsimp only [zS, zN, zH, zT]); try exact rfl
                refine then_normal ?_
                refine aw_drawX (fun K => K.blks[H.nb]? = some (f1 89 x)) [0, 0, 0, 0, 0, 2, 2, 0] mixed (by kernel_rfl) (setB_at push_at) (.inr (by kernel_rfl)) ?_
                apply drun0X
                · intro H hPhi; first | exact op_fieldAddr_ptr Try.underlying89 rfl Sz37 (by rfl) (by rfl) | exact op_fieldAddr_elt Try.underlying89 rfl Sz37 (by rfl) (by rfl) (by rfl)
                · rfl
                apply drun_normT
                · (try dsimp only [zS, zN, zH, zT]); try exact rfl
                apply drun0X
                · intro H hPhi; exact op_load_ptrsD (vC x.val) Try.underlying37 (by rfl) Sz37 (by rfl) hPhi (by show 1 + 6 ≤ ((fC x).map AV.d).length; rw [List.length_map, fC_len]; exact Nat.le_refl _) (f1_val x) (vC_one _)
                · rfl
                apply drun_normT
                · (try dsimp only [zS, zN, zH, zT]); try exact rfl
                apply drun0X
                · intro H hPhi; exact op_move_tmp (by rfl)
                · rfl
                apply drun_normT
                · (try dsimp only [zS, zN, zH, zT]); try exact rfl
                apply drun0X
                · intro H hPhi; first | exact op_fieldAddr_ptr Try.underlying89 rfl Sz9 (by rfl) (by rfl) | exact op_fieldAddr_elt Try.underlying89 rfl Sz9 (by rfl) (by rfl) (by rfl)
                · rfl
                apply drun_normT
                · (try dsimp only [zS, zN, zH, zT]); try exact rfl
                apply drun0X
                · intro H hPhi; exact op_load_ptr Try.underlying9 (by rfl) (by rfl) hPhi (f1_name x)
                · rfl
                apply drun_normT
                · (try dsimp only [zS, zN, zH, zT]); try exact rfl
                apply drun2X
                · exact op_callF Try.func65 (by rfl) (by rfl) (.tmp (by rfl) (.tmp (by rfl) .nil)) (otext_ok _ (some (Hs.tk t)) _ (encFj bs fs j) x.name (App.own _ _ _) hr.ok (by have := Sch.textB_ge x.name; omega))
                · rfl
                · refine .inr ?_; first | (rw [HS.up_blks]; exact setB_at push_at) | (rw [HS.up_blks, HS.up_blks]; exact setB_at push_at)
                apply drun_normT
                · (try dsimp only [zS, zN, zH, zT]); try exact rfl
                apply drun2X
                · exact op_callF Try.func87 (by rfl) (by rfl) (.tmp (by rfl) (.tmp (by rfl) .nil)) (ihF x (List.mem_of_getElem? hx) _ (some (Hs.tk t)) _ (encFj bs fs j ++ textB x.name) (App.own _ _ _) (okB _ (some (Hs.tk t)) _ (show HS.ok ((H.push _ _).setB _ _) _ _ from hr.ok)) (by rw [List.length_append]; omega))
                · rfl
                · refine .inr ?_; first | (rw [HS.up_blks]; exact setB_at push_at) | (rw [HS.up_blks, HS.up_blks]; exact setB_at push_at)
                apply drun_normT
                · (try dsimp only [zS, zN, zH, zT]); try exact rfl
                apply drun0X
                · intro H hPhi; exact op_assign_tmp (by rfl)
                · rfl
                apply drun_normT
                · (try dsimp only [zS, zN, zH, zT]); try exact rfl
                apply drun_end
                · (try dsimp only [zS, zN, zH, zT]); try exact rfl
                refine inBlock_normal (then_normal ?_)
                refine aw_region ?_
                apply al_stepN
                · first | exact op_add (by rfl) (by rfl) (wrap_i64 ⟨by omega, by omega⟩) | exact op_add (by rfl) (by rfl) (by rfl)
                · rfl
                · (try dsimp only [zS, zN, zH, zT]); try exact rfl
                apply al_stepN
                · exact op_move_tmp (by rfl)
                · rfl
                · (try dsimp only [zS, zN, zH, zT]); try exact rfl
                apply al_end
                · (try dsimp only [zS, zN, zH, zT]); try exact rfl
                apply again_to (fs.length - (j + 1)) (false :: true :: false :: false :: false :: false :: false :: false :: false :: false :: false :: false :: false :: false :: false :: false :: false :: false :: false :: false :: false :: false :: false :: false :: false :: false :: false :: false :: false :: false :: false :: false :: false :: false :: false :: false :: false :: false :: false :: false :: false :: false :: false :: false :: false :: false :: false :: false :: false :: false :: false :: false :: false :: false :: false :: false :: false :: false :: false :: false :: false :: false :: false :: false :: false :: false :: false :: false :: false :: false :: true :: true :: true :: false :: false :: false :: false :: false :: false :: false :: false :: false :: false :: false :: false :: [])
                · (try dsimp only [maskT]); try exact rfl
                · rfl
                · omega
                exact ⟨j + 1, by (rw [encFj_step hx]) <;> rfl, by omega, rfl, by rw [encFj_step hx]; exact ((hr.push.setB hr.nb).step _).step _⟩
              · skip
                (try simp only [decide_eq_true_eq, decide_eq_false_iff_not, beq_iff_eq, beq_eq_false_iff_ne, Bool.not_eq_true', Bool.not_eq_false', bne_iff_ne, ne_eq, Decidable.not_not, bne_eq_false_iff_eq, List.length_map] at hc7)
                (try simp only [List.length_map] at hc7)
                have hje : j = fs.length := by omega
                subst hje
                rw [encFj_full (y := y) (i := i) (tx := tx) (ls := ls)] at hr ⊢
                refine aw_exit ?_
                refine then_exit (again_exit (inBlock_here (inBlock_normal ?_)))
                apply cut_to (false :: true :: false :: false :: false :: false :: false :: false :: false :: false :: false :: false :: false :: false :: false :: false :: false :: false :: false :: false :: false :: false :: false :: false :: false :: false :: false :: false :: false :: false :: false :: false :: false :: false :: false :: false :: false :: false :: false :: false :: false :: false :: false :: false :: false :: false :: false :: false :: false :: false :: false :: false :: false :: false :: false :: false :: false :: false :: false :: false :: false :: false :: false :: false :: false :: false :: false :: false :: false :: false :: false :: false :: false :: false :: false :: false :: false :: false :: false :: false :: false :: false :: false :: false :: false :: [])
                · (try dsimp only [maskT]); try exact rfl
                · rfl
                exact ⟨_, rfl, hr, rfl⟩
            · skip
              (try simp only [decide_eq_true_eq, decide_eq_false_iff_not, beq_iff_eq, beq_eq_false_iff_ne, Bool.not_eq_true', Bool.not_eq_false', bne_iff_ne, ne_eq, Decidable.not_not, bne_eq_false_iff_eq, List.length_map] at hc6)
              have hk5 : ¬ k = 5 := hc6
              refine aw_skip ?_
              refine inBlock_normal ?_
              apply cut_to (false :: true :: false :: false :: false :: false :: false :: false :: false :: false :: false :: false :: false :: false :: false :: false :: false :: false :: false :: false :: false :: false :: false :: false :: false :: false :: false :: false :: false :: false :: false :: false :: false :: false :: false :: false :: false :: false :: false :: false :: false :: false :: false :: false :: false :: false :: false :: false :: false :: false :: false :: false :: false :: false :: false :: false :: false :: false :: false :: false :: false :: false :: false :: false :: false :: false :: false :: false :: false :: false :: false :: false :: false :: false :: false :: false :: false :: false :: false :: false :: false :: false :: false :: false :: false :: [])
              · (try dsimp only [maskT]); try exact rfl
              · rfl
              exact ⟨_, rfl, hr, by rw [hE]; simp [hk1, hk2, hk3, hk4, hk5]⟩
  rintro T H ⟨l, rfl, hr, rfl⟩
  refine aw_seq ?_
  refine aw_region ?_
  apply al_stepN
  · exact op_move_tmp (by rfl)
  · rfl
  · (try dsimp only [zS, zN, zH, zT]); try exact rfl
  apply al_stepN
  · exact op_assign_tmp (by rfl)
  · rfl
  · (try dsimp only [zS, zN, zH, zT]); try exact rfl
  apply al_end
  · (try dsimp only [zS, zN, zH, zT]); try exact rfl
  refine then_normal ?_
  refine aw_ret ?_
  refine retPost1 rfl rfl ?_
  exact ⟨rfl, hr⟩
end Go.Proofs.Ytadkehaagkjbhaa
