/- What ord.Cut and ord.Parts come to. -/
import Derived.Test.YtadkehaagkjbhaaBldW
import Derived.Test.YtadkehaagkjbhaaA13
import Derived.Test.YtadkehaagkjbhaaOrdPlain
import Derived.KernelRfl
namespace Go.Proofs.Ytadkehaagkjbhaa
open Go.AV Go.AV.Ord
set_option linter.unusedVariables false
set_option linter.unusedSimpArgs false
set_option maxRecDepth 100000 in
theorem cut_ok (Hs : HS) (k : List UInt8) (hk : k.length ≤ 140737488355328) : ACalls Try.prog 77 [.d (S k)] Hs (Ret (.tup [.d (S (cut1 k)), .d (S (cut2 k)), .d (TF (cutB k))]) Hs) := by
  refine ACalls.tidyT (xs := [S (cut1 k), S (cut2 k), TF (cutB k)]) ?_
  refine acalls_of_aw Try.func77 rfl ?_
  refine aw_start (T' := [.d (S k), .un, .un, .un, .un, .un, .un, .un, .un, .un, .un, .un, .un, .un, .un, .un, .un, .un, .un, .un, .un, .un, .un, .un, .un, .un, .un, .un, .un, .un, .un, .un, .un, .un, .un, .un, .un]) rfl ?_
  refine aw_seq ?_
  refine aw_region ?_
  apply al_stepN
  · exact op_assign_const (by rfl)
  · rfl
  · (try dsimp only [zS, zN, zH, zT]); try exact rfl
  apply al_stepN
  · exact op_assign_const (by rfl)
  · rfl
  · (try dsimp only [zS, zN, zH, zT]); try exact rfl
  apply al_stepN
  · exact op_assign_const (by rfl)
  · rfl
  · (try dsimp only [zS, zN, zH, zT]); try exact rfl
  apply al_end
  · (try dsimp only [zS, zN, zH, zT]); try exact rfl
  refine then_normal ?_
  refine aw_seq ?_
  refine aw_region ?_
  apply al_stepN
  · exact op_alloc (Zr158) (by rfl)
  · rfl
  · (try dsimp only [zS, zN, zH, zT]); try exact rfl
  apply al_end
  · (try dsimp only [zS, zN, zH, zT]); try exact rfl
  refine then_normal ?_
  refine aw_seq ?_
  refine aw_seq ?_
  refine aw_region ?_
  apply al_stepN
  · exact op_assign_const (by rfl)
  · rfl
  · (try dsimp only [zS, zN, zH, zT]); try exact rfl
  apply al_end
  · (try dsimp only [zS, zN, zH, zT]); try exact rfl
  refine then_normal ?_
  refine aw_block ?_
  apply aw_loopF (fun n T H => ∃ (i : Nat) (o : List UInt8), T = [.d (S k), .un, .un, .un, .un, .ptr Hs.nb 0, .d (I i), .un, .un, .un, .un, .un, .un, .un, .un, .un, .un, .un, .un, .un, .un, .un, .un, .un, .un, .un, .un, .un, .un, .un, .un, .un, .un, .un, .un, .un, .un] ∧ i ≤ k.length ∧ n = k.length - i ∧ Bld Hs 158 5 H o ∧ cutO o (k.drop i) = cutL k ∧ o.length ≤ i) (k.length) [true, false, false, false, false, true, true, false, false, false, false, false, false, false, false, false, false, false, false, false, false, false, false, false, false, false, false, false, false, false, false, false, false, false, false, false, false]
  · (try dsimp only [maskT]); try exact rfl
  · rfl
  · exact ⟨0, [], rfl, by omega, rfl, Bld.new Hs 158 5, cutO_nil k, by simp⟩
  rintro n T H ⟨i, o, rfl, hi, rfl, hB, hcut, hol⟩
  refine aw_seq ?_
  refine aw_seq ?_
  refine aw_region ?_
  apply al_stepN
  · exact op_move_tmp (by rfl)
  · rfl
  · (try dsimp only [zS, zN, zH, zT]); try exact rfl
  apply al_stepN
  · first | exact op_add (by rfl) (by rfl) (wrap_i64 ⟨by omega, by omega⟩) | exact op_add (by rfl) (by rfl) (by rfl)
  · rfl
  · (try dsimp only [zS, zN, zH, zT]); try exact rfl
  apply al_stepN
  · exact op_move_tmp (by rfl)
  · rfl
  · (try dsimp only [zS, zN, zH, zT]); try exact rfl
  apply al_stepN
  · exact op_lenS Try.underlying9 (by rfl)
  · rfl
  · (try dsimp only [zS, zN, zH, zT]); try exact rfl
  apply al_stepN
  · exact op_ltI (by rfl) (by rfl)
  · rfl
  · (try dsimp only [zS, zN, zH, zT]); try exact rfl
  apply al_end
  · (try dsimp only [zS, zN, zH, zT]); try exact rfl
  refine then_normal ?_
  refine aw_cond rfl (fun hc1 => ?_) (fun hc1 => ?_)
  · skip
    (try simp only [decide_eq_true_eq, decide_eq_false_iff_not, beq_iff_eq, beq_eq_false_iff_ne, Bool.not_eq_true', Bool.not_eq_false', bne_iff_ne, ne_eq, Decidable.not_not, bne_eq_false_iff_eq, List.length_map] at hc1)
    have hlt : i + 1 < k.length := by omega
    obtain ⟨c, hc⟩ : ∃ c, k[i]? = some c := ⟨_, List.getElem?_eq_getElem (by omega)⟩
    obtain ⟨d, hd⟩ : ∃ c, k[i + 1]? = some c := ⟨_, List.getElem?_eq_getElem (by omega)⟩
    refine aw_skip ?_
    refine then_normal ?_
    refine aw_seq ?_
    refine aw_block ?_
    refine aw_seq ?_
    refine aw_seq ?_
    refine aw_region ?_
    apply al_stepN
    · exact op_move_tmp (by rfl)
    · rfl
    · (try dsimp only [zS, zN, zH, zT]); try exact rfl
    apply al_stepN
    · exact op_move_tmp (by rfl)
    · rfl
    · (try dsimp only [zS, zN, zH, zT]); try exact rfl
    apply al_stepN
    · exact op_indexS Try.underlying9 (by rfl) (by rfl) (by omega) (show k[((i : Nat) : Int).toNat]? = some c by simpa using hc)
    · rfl
    · (try dsimp only [zS, zN, zH, zT]); try exact rfl
    apply al_stepN
    · exact op_neI (by rfl) (by rfl)
    · rfl
    · (try dsimp only [zS, zN, zH, zT]); try exact rfl
    apply al_end
    · (try dsimp only [zS, zN, zH, zT]); try exact rfl
    refine then_normal ?_
    refine aw_cond rfl (fun hc2 => ?_) (fun hc2 => ?_)
    · skip
      (try simp only [decide_eq_true_eq, decide_eq_false_iff_not, beq_iff_eq, beq_eq_false_iff_ne, Bool.not_eq_true', Bool.not_eq_false', bne_iff_ne, ne_eq, Decidable.not_not, bne_eq_false_iff_eq, List.length_map] at hc2)
      have hcz : c ≠ 0 := by intro h; subst h; exact hc2 rfl
      refine aw_seq ?_
      refine aw_region ?_
      apply al_stepN
      · exact op_move_tmp (by rfl)
      · rfl
      · (try dsimp only [zS, zN, zH, zT]); try exact rfl
      apply al_stepN
      · exact op_move_tmp (by rfl)
      · rfl
      · (try dsimp only [zS, zN, zH, zT]); try exact rfl
      apply al_stepN
      · exact op_indexS Try.underlying9 (by rfl) (by rfl) (by omega) (show k[((i : Nat) : Int).toNat]? = some c by simpa using hc)
      · rfl
      · (try dsimp only [zS, zN, zH, zT]); try exact rfl
      refine al_cons _ (op_callF Try.func101 (by rfl) (by rfl) (.tmp (by rfl) (.tmp (by rfl) .nil)) (writeByte_ok Hs H o c hB (by omega))) rfl ?_
      rintro v2 H2 ⟨rfl, hB2⟩
      apply al_normT
      · (try dsimp only [putT, List.set_cons_zero, List.set_cons_succ]); try exact rfl
      apply al_end
      · (try dsimp only [zS, zN, zH, zT]); try exact rfl
      refine then_normal ?_
      refine aw_exit ?_
      refine then_exit (inBlock_here (then_normal ?_))
      refine aw_region ?_
      apply al_stepN
      · exact op_move_tmp (by rfl)
      · rfl
      · (try dsimp only [zS, zN, zH, zT]); try exact rfl
      apply al_stepN
      · first | exact op_add (by rfl) (by rfl) (wrap_i64 ⟨by omega, by omega⟩) | exact op_add (by rfl) (by rfl) (by rfl)
      · rfl
      · (try dsimp only [zS, zN, zH, zT]); try exact rfl
      apply al_stepN
      · exact op_assign_tmp (by rfl)
      · rfl
      · (try dsimp only [zS, zN, zH, zT]); try exact rfl
      apply al_end
      · (try dsimp only [zS, zN, zH, zT]); try exact rfl
      apply again_to (k.length - (i + 1)) [true, false, false, false, false, true, true, false, false, false, false, false, false, false, false, false, false, false, false, false, false, false, false, false, false, false, false, false, false, false, false, false, false, false, false, false, false]
      · (try dsimp only [maskT]); try exact rfl
      · rfl
      · omega
      exact ⟨i + 1, o ++ [c], rfl, by omega, rfl, hB2, by rw [← hcut, drop_one hc, cutO_step hcz], by simp; omega⟩
    · skip
      (try simp only [decide_eq_true_eq, decide_eq_false_iff_not, beq_iff_eq, beq_eq_false_iff_ne, Bool.not_eq_true', Bool.not_eq_false', bne_iff_ne, ne_eq, Decidable.not_not, bne_eq_false_iff_eq, List.length_map] at hc2)
      obtain rfl : c = 0 := by apply UInt8.toNat_inj.1; show c.toNat = 0; omega
      refine aw_skip ?_
      refine then_normal ?_
      refine aw_seq ?_
      refine aw_region ?_
      apply al_stepN
      · exact op_move_tmp (by rfl)
      · rfl
      · (try dsimp only [zS, zN, zH, zT]); try exact rfl
      apply al_stepN
      · first | exact op_add (by rfl) (by rfl) (wrap_i64 ⟨by omega, by omega⟩) | exact op_add (by rfl) (by rfl) (by rfl)
      · rfl
      · (try dsimp only [zS, zN, zH, zT]); try exact rfl
      apply al_stepN
      · exact op_assign_tmp (by rfl)
      · rfl
      · (try dsimp only [zS, zN, zH, zT]); try exact rfl
      apply al_end
      · (try dsimp only [zS, zN, zH, zT]); try exact rfl
      refine then_normal ?_
      refine aw_seq ?_
      refine aw_region ?_
      apply al_stepN
      · exact op_move_tmp (by rfl)
      · rfl
      · (try dsimp only [zS, zN, zH, zT]); try exact rfl
      apply al_stepN
      · exact op_move_tmp (by rfl)
      · rfl
      · (try dsimp only [zS, zN, zH, zT]); try exact rfl
      apply al_stepN
      · exact op_indexS Try.underlying9 (by rfl) (by rfl) (by omega) (show k[(((i + 1 : Nat)) : Int).toNat]? = some d by simpa using hd)
      · rfl
      · (try dsimp only [zS, zN, zH, zT]); try exact rfl
      apply al_end
      · (try dsimp only [zS, zN, zH, zT]); try exact rfl
      refine then_normal ?_
      refine aw_block ?_
      refine aw_seq ?_
      refine aw_region ?_
      apply al_stepN
      · exact op_eqI (by rfl) (by rfl)
      · rfl
      · (try dsimp only [zS, zN, zH, zT]); try exact rfl
      apply al_stepN
      · exact op_assign_tmp (by rfl)
      · rfl
      · (try dsimp only [zS, zN, zH, zT]); try exact rfl
      apply al_end
      · (try dsimp only [zS, zN, zH, zT]); try exact rfl
      refine then_normal ?_
      refine aw_cond rfl (fun hc3 => ?_) (fun hc3 => ?_)
      · skip
        (try simp only [decide_eq_true_eq, decide_eq_false_iff_not, beq_iff_eq, beq_eq_false_iff_ne, Bool.not_eq_true', Bool.not_eq_false', bne_iff_ne, ne_eq, Decidable.not_not, bne_eq_false_iff_eq, List.length_map] at hc3)
        obtain rfl : d = 1 := by apply UInt8.toNat_inj.1; show d.toNat = 1; omega
        obtain ⟨hx, p, v, hb, hv, hp, hlt2⟩ := hB
        refine aw_seq ?_
        refine aw_draw [2, 0, 0, 0, 0, 0, 0, 0] mixed (by kernel_rfl) ?_
        apply drun2
        · exact op_callF Try.func102 (by rfl) (by rfl) (.tmp (by rfl) .nil) (bstring_ok H Hs.nb p v o hb hv (by omega))
        · rfl
        apply drun_normT
        · (try dsimp only [zS, zN, zH, zT]); try exact rfl
        apply drun0
        · intro H; exact op_move_tmp (by rfl)
        · rfl
        apply drun_normT
        · (try dsimp only [zS, zN, zH, zT]); try exact rfl
        apply drun0
        · intro H; exact op_move_tmp (by rfl)
        · rfl
        apply drun_normT
        · (try dsimp only [zS, zN, zH, zT]); try exact rfl
        apply drun0
        · intro H; first | exact op_add (by rfl) (by rfl) (wrap_i64 ⟨by omega, by omega⟩) | exact op_add (by rfl) (by rfl) (by rfl)
        · rfl
        apply drun_normT
        · (try dsimp only [zS, zN, zH, zT]); try exact rfl
        apply drun0
        · intro H; exact op_sliceS1 (k.drop (i + 2)) Try.underlying9 (by rfl) (by rfl) (by omega) (by omega) (by rw [show (((i : Nat) : Int) + 1 + 1).toNat = i + 2 by omega])
        · rfl
        apply drun_normT
        · (try dsimp only [zS, zN, zH, zT]); try exact rfl
        apply drun0
        · intro H; exact op_assign_tmp (by rfl)
        · rfl
        apply drun_normT
        · (try dsimp only [zS, zN, zH, zT]); try exact rfl
        apply drun0
        · intro H; exact op_assign_tmp (by rfl)
        · rfl
        apply drun_normT
        · (try dsimp only [zS, zN, zH, zT]); try exact rfl
        apply drun0
        · intro H; exact op_assign_const (by rfl)
        · rfl
        apply drun_normT
        · (try dsimp only [zS, zN, zH, zT]); try exact rfl
        apply drun_end
        · (try dsimp only [zS, zN, zH, zT]); try exact rfl
        refine then_normal ?_
        refine aw_ret ?_
        refine inBlock_ret (inBlock_ret (then_ret (again_ret (inBlock_ret (then_ret ?_)))))
        refine retPost3 rfl rfl rfl rfl ?_
        have hs : cutL k = some (o, k.drop (i + 2)) := by rw [← hcut, drop_two hc hd]; exact cutO_end
        exact ⟨by simp only [cut1, cut2, cutB, hs]; rfl, frzV_ext hx hlt2⟩
      · skip
        (try simp only [decide_eq_true_eq, decide_eq_false_iff_not, beq_iff_eq, beq_eq_false_iff_ne, Bool.not_eq_true', Bool.not_eq_false', bne_iff_ne, ne_eq, Decidable.not_not, bne_eq_false_iff_eq, List.length_map] at hc3)
        have hd1 : d ≠ 1 := by intro h; subst h; exact hc3 rfl
        refine aw_seq ?_
        refine aw_region ?_
        apply al_stepN
        · exact op_eqI (by rfl) (by rfl)
        · rfl
        · (try dsimp only [zS, zN, zH, zT]); try exact rfl
        apply al_stepN
        · exact op_assign_tmp (by rfl)
        · rfl
        · (try dsimp only [zS, zN, zH, zT]); try exact rfl
        apply al_end
        · (try dsimp only [zS, zN, zH, zT]); try exact rfl
        refine then_normal ?_
        refine aw_cond rfl (fun hc4 => ?_) (fun hc4 => ?_)
        · skip
          (try simp only [decide_eq_true_eq, decide_eq_false_iff_not, beq_iff_eq, beq_eq_false_iff_ne, Bool.not_eq_true', Bool.not_eq_false', bne_iff_ne, ne_eq, Decidable.not_not, bne_eq_false_iff_eq, List.length_map] at hc4)
          obtain rfl : d = 255 := by apply UInt8.toNat_inj.1; show d.toNat = 255; omega
          refine aw_region ?_
          refine al_cons _ (op_callF Try.func101 (by rfl) (by rfl) (.tmp (by rfl) (.const (by rfl) .nil)) (writeByte_ok Hs H o 0 hB (by omega))) rfl ?_
          rintro v2 H2 ⟨rfl, hB2⟩
          apply al_normT
          · (try dsimp only [putT, List.set_cons_zero, List.set_cons_succ]); try exact rfl
          apply al_end
          · (try dsimp only [zS, zN, zH, zT]); try exact rfl
          refine inBlock_normal (inBlock_normal (then_normal ?_))
          refine aw_region ?_
          apply al_stepN
          · exact op_move_tmp (by rfl)
          · rfl
          · (try dsimp only [zS, zN, zH, zT]); try exact rfl
          apply al_stepN
          · first | exact op_add (by rfl) (by rfl) (wrap_i64 ⟨by omega, by omega⟩) | exact op_add (by rfl) (by rfl) (by rfl)
          · rfl
          · (try dsimp only [zS, zN, zH, zT]); try exact rfl
          apply al_stepN
          · exact op_assign_tmp (by rfl)
          · rfl
          · (try dsimp only [zS, zN, zH, zT]); try exact rfl
          apply al_end
          · (try dsimp only [zS, zN, zH, zT]); try exact rfl
          apply again_to (k.length - (i + 2)) [true, false, false, false, false, true, true, false, false, false, false, false, false, false, false, false, false, false, false, false, false, false, false, false, false, false, false, false, false, false, false, false, false, false, false, false, false]
          · (try dsimp only [maskT]); try exact rfl
          · rfl
          · omega
          exact ⟨i + 2, o ++ [0], rfl, by omega, rfl, hB2, by rw [← hcut, drop_two hc hd, cutO_zero], by simp; omega⟩
        · skip
          (try simp only [decide_eq_true_eq, decide_eq_false_iff_not, beq_iff_eq, beq_eq_false_iff_ne, Bool.not_eq_true', Bool.not_eq_false', bne_iff_ne, ne_eq, Decidable.not_not, bne_eq_false_iff_eq, List.length_map] at hc4)
          have hd2 : d ≠ 255 := by intro h; subst h; exact hc4 rfl
          refine aw_seq ?_
          refine aw_region ?_
          apply al_stepN
          · exact op_assign_const (by rfl)
          · rfl
          · (try dsimp only [zS, zN, zH, zT]); try exact rfl
          apply al_stepN
          · exact op_assign_const (by rfl)
          · rfl
          · (try dsimp only [zS, zN, zH, zT]); try exact rfl
          apply al_stepN
          · exact op_assign_const (by rfl)
          · rfl
          · (try dsimp only [zS, zN, zH, zT]); try exact rfl
          apply al_end
          · (try dsimp only [zS, zN, zH, zT]); try exact rfl
          refine then_normal ?_
          refine aw_ret ?_
          refine inBlock_ret (inBlock_ret (then_ret (again_ret (inBlock_ret (then_ret ?_)))))
          refine retPost3 rfl rfl rfl rfl ?_
          have hs : cutL k = none := by rw [← hcut, drop_two hc hd]; exact cutO_bad hd1 hd2
          exact ⟨by simp only [cut1, cut2, cutB, hs]; rfl, hB.ext⟩
  · skip
    (try simp only [decide_eq_true_eq, decide_eq_false_iff_not, beq_iff_eq, beq_eq_false_iff_ne, Bool.not_eq_true', Bool.not_eq_false', bne_iff_ne, ne_eq, Decidable.not_not, bne_eq_false_iff_eq, List.length_map] at hc1)
    have hnone : cutL k = none := by rw [← hcut]; exact cutO_short (by simp; omega)
    refine aw_exit ?_
    refine then_exit (again_exit (inBlock_here (then_normal ?_)))
    refine aw_seq ?_
    refine aw_region ?_
    apply al_stepN
    · exact op_assign_const (by rfl)
    · rfl
    · (try dsimp only [zS, zN, zH, zT]); try exact rfl
    apply al_stepN
    · exact op_assign_const (by rfl)
    · rfl
    · (try dsimp only [zS, zN, zH, zT]); try exact rfl
    apply al_stepN
    · exact op_assign_const (by rfl)
    · rfl
    · (try dsimp only [zS, zN, zH, zT]); try exact rfl
    apply al_end
    · (try dsimp only [zS, zN, zH, zT]); try exact rfl
    refine then_normal ?_
    refine aw_ret ?_
    refine retPost3 rfl rfl rfl rfl ?_
    exact ⟨by simp only [cut1, cut2, cutB, hnone]; rfl, hB.ext⟩
set_option maxRecDepth 100000 in
theorem parts_ok (Hs : HS) (k : List UInt8) (hk : k.length ≤ 1099511627776) : ACalls Try.prog 30 [.d (S k)] Hs (Ret (.tup [.d (.lst 1 ((partsA k).map S)), .d (I (partsE k))]) Hs) := by
  refine ACalls.tidyT (xs := [.lst 1 ((partsA k).map S), I (partsE k)]) ?_
  suffices h : ACalls Try.prog 30 [.d (S k)] Hs (fun av H' => ∃ v, av = .tup [v, .d (I (partsE k))] ∧ Weak v (.d (.lst 1 ((partsA k).map S))) ∧ Ext Hs H') from h.weak fun v H' ⟨v', h1, h2, h3⟩ => ⟨_, by rw [h1]; exact Weak.tup (.cons h2 (.cons (Weak.refl _) .nil)), rfl, h3⟩
  refine acalls_of_aw Try.func30 rfl ?_
  refine aw_start (T' := [.d (S k), .un, .un, .un, .un, .un, .un, .un, .un, .un, .un, .un, .un, .un, .un, .un, .un, .un, .un, .un, .un, .un, .un, .un]) rfl ?_
  refine aw_seq ?_
  refine aw_region ?_
  apply al_stepN
  · exact op_assign_const (by rfl)
  · rfl
  · (try dsimp only [zS, zN, zH, zT]); try exact rfl
  apply al_stepN
  · exact op_assign_const (by rfl)
  · rfl
  · (try dsimp only [zS, zN, zH, zT]); try exact rfl
  apply al_end
  · (try dsimp only [zS, zN, zH, zT]); try exact rfl
  refine then_normal ?_
  refine aw_seq ?_
  refine aw_region ?_
  apply al_stepN
  · exact op_assign_const (by rfl)
  · rfl
  · (try dsimp only [zS, zN, zH, zT]); try exact rfl
  apply al_end
  · (try dsimp only [zS, zN, zH, zT]); try exact rfl
  refine then_normal ?_
  refine aw_seq ?_
  refine aw_block ?_
  apply aw_loopF (fun n T H => ∃ (k' : List UInt8) (o : List (List UInt8)) (v : AV), T = [.d (S k'), .un, .un, .un, v, .un, .un, .un, .un, .un, .un, .un, .un, .un, .un, .un, .un, .un, .un, .un, .un, .un, .un, .un] ∧ n = k'.length ∧ Grows Hs none v H 1 (o.map S) ∧ partsO o k' = partsL k ∧ 2 * o.length + k'.length ≤ k.length) (k.length) [true, false, false, false, true, false, false, false, false, false, false, false, false, false, false, false, false, false, false, false, false, false, false, false]
  · (try dsimp only [maskT]); try exact rfl
  · rfl
  · exact ⟨k, [], _, rfl, rfl, Grows.own (App.nil _) (HS.ok_none _ _), partsO_nil k, by simp⟩
  rintro n T H ⟨k', o, v, rfl, rfl, hG, hps, hle⟩
  obtain ⟨t, hv, hh, hok⟩ := hG.ex
  refine aw_seq ?_
  refine aw_seq ?_
  refine aw_region ?_
  apply al_stepN
  · exact op_move_tmp (by rfl)
  · rfl
  · (try dsimp only [zS, zN, zH, zT]); try exact rfl
  apply al_stepN
  · exact op_neS (by rfl) (by rfl)
  · rfl
  · (try dsimp only [zS, zN, zH, zT]); try exact rfl
  apply al_end
  · (try dsimp only [zS, zN, zH, zT]); try exact rfl
  refine then_normal ?_
  refine aw_cond rfl (fun hc1 => ?_) (fun hc1 => ?_)
  · skip
    (try simp only [decide_eq_true_eq, decide_eq_false_iff_not, beq_iff_eq, beq_eq_false_iff_ne, Bool.not_eq_true', Bool.not_eq_false', bne_iff_ne, ne_eq, Decidable.not_not, bne_eq_false_iff_eq, List.length_map] at hc1)
    have hne : k' ≠ [] := hc1
    refine aw_skip ?_
    refine then_normal ?_
    refine aw_block ?_
    refine aw_seq ?_
    refine aw_region ?_
    apply al_stepN
    · exact op_move_tmp (by rfl)
    · rfl
    · (try dsimp only [zS, zN, zH, zT]); try exact rfl
    apply al_stepN
    · exact op_callF Try.func77 (by rfl) (by rfl) (.tmp (by rfl) .nil) (cut_ok _ k' (by omega))
    · rfl
    · (try dsimp only [zS, zN, zH, zT]); try exact rfl
    apply al_stepN
    · exact op_move_tmp (by rfl)
    · rfl
    · (try dsimp only [zS, zN, zH, zT]); try exact rfl
    apply al_stepN
    · exact op_extract (by rfl) (by rfl)
    · rfl
    · (try dsimp only [zS, zN, zH, zT]); try exact rfl
    apply al_stepN
    · exact op_extract (by rfl) (by rfl)
    · rfl
    · (try dsimp only [zS, zN, zH, zT]); try exact rfl
    apply al_stepN
    · exact op_extract (by rfl) (by rfl)
    · rfl
    · (try dsimp only [zS, zN, zH, zT]); try exact rfl
    apply al_stepN
    · exact op_assign_tmp (by rfl)
    · rfl
    · (try dsimp only [zS, zN, zH, zT]); try exact rfl
    apply al_stepN
    · exact op_assign_tmp (by rfl)
    · rfl
    · (try dsimp only [zS, zN, zH, zT]); try exact rfl
    apply al_stepN
    · exact op_assign_tmp (by rfl)
    · rfl
    · (try dsimp only [zS, zN, zH, zT]); try exact rfl
    apply al_end
    · (try dsimp only [zS, zN, zH, zT]); try exact rfl
    refine then_normal ?_
    refine aw_seq ?_
    refine aw_seq ?_
    refine aw_region ?_
    apply al_stepN
    · exact op_move_tmp (by rfl)
    · rfl
    · (try dsimp only [zS, zN, zH, zT]); try exact rfl
    apply al_stepN
    · exact op_not (by rfl)
    · rfl
    · (try dsimp only [zS, zN, zH, zT]); try exact rfl
    apply al_end
    · (try dsimp only [zS, zN, zH, zT]); try exact rfl
    refine then_normal ?_
    refine aw_cond rfl (fun hc2 => ?_) (fun hc2 => ?_)
    · skip
      (try simp only [decide_eq_true_eq, decide_eq_false_iff_not, beq_iff_eq, beq_eq_false_iff_ne, Bool.not_eq_true', Bool.not_eq_false', bne_iff_ne, ne_eq, Decidable.not_not, bne_eq_false_iff_eq, List.length_map] at hc2)
      have hcn := cut_none hc2
      have hnone : partsL k = none := by rw [← hps]; exact partsO_bad hne hcn
      refine aw_seq ?_
      refine aw_region ?_
      apply al_stepN
      · exact op_assign_const (by rfl)
      · rfl
      · (try dsimp only [zS, zN, zH, zT]); try exact rfl
      apply al_stepN
      · exact op_assign_const (by rfl)
      · rfl
      · (try dsimp only [zS, zN, zH, zT]); try exact rfl
      apply al_end
      · (try dsimp only [zS, zN, zH, zT]); try exact rfl
      refine then_normal ?_
      refine aw_ret ?_
      refine then_ret (inBlock_ret (again_ret (inBlock_ret (then_ret ?_))))
      refine retPost2 rfl rfl rfl ?_
      exact ⟨_, by simp only [partsE, hnone]; rfl, by simp only [partsA, hnone]; exact Weak.nil 1, hh.ext⟩
    · skip
      (try simp only [decide_eq_true_eq, decide_eq_false_iff_not, beq_iff_eq, beq_eq_false_iff_ne, Bool.not_eq_true', Bool.not_eq_false', bne_iff_ne, ne_eq, Decidable.not_not, bne_eq_false_iff_eq, List.length_map] at hc2)
      have hcs := cut_some hc2
      have hlen := cutL_len hcs
      refine aw_skip ?_
      refine then_normal ?_
      refine aw_region ?_
      apply al_stepN
      · exact op_move_tmp (by rfl)
      · rfl
      · (try dsimp only [zS, zN, zH, zT]); try exact rfl
      apply al_stepN
      · exact op_move_tmp (by rfl)
      · rfl
      · (try dsimp only [zS, zN, zH, zT]); try exact rfl
      apply al_stepN
      · exact op_lit Try.underlying46 ZS9 (.cons (by rfl) (.nil _)) (by rfl) (by simp [BY, S, I, TF, DV.cells]) (by simp [flat, BY, S, I, TF, DV.cells, DV.one]) (by decide)
      · rfl
      · (try dsimp only [zS, zN, zH, zT]); try exact rfl
      apply al_stepN
      · exact op_append Try.underlying46 Inf9 (by rfl) hv (.list _ _ _ _ Try.underlying46 (LL.own _ _ _)) hok (by simp) (by simp; omega) (by simp; omega)
      · rfl
      · (try dsimp only [zS, zN, zH, zT]); try exact rfl
      apply al_stepN
      · exact op_move_tmp (by rfl)
      · rfl
      · (try dsimp only [zS, zN, zH, zT]); try exact rfl
      apply al_stepN
      · exact op_assign_tmp (by rfl)
      · rfl
      · (try dsimp only [zS, zN, zH, zT]); try exact rfl
      apply al_stepN
      · exact op_assign_tmp (by rfl)
      · rfl
      · (try dsimp only [zS, zN, zH, zT]); try exact rfl
      apply al_end
      · (try dsimp only [zS, zN, zH, zT]); try exact rfl
      refine inBlock_normal ?_
      apply again_to ((cut2 k').length) [true, false, false, false, true, false, false, false, false, false, false, false, false, false, false, false, false, false, false, false, false, false, false, false]
      · (try dsimp only [maskT]); try exact rfl
      · rfl
      · omega
      exact ⟨cut2 k', o ++ [cut1 k'], _, rfl, rfl, Grows.grown hh hok (by simp) (by simp), by rw [← hps, partsO_step hcs], by simp; omega⟩
  · skip
    (try simp only [decide_eq_true_eq, decide_eq_false_iff_not, beq_iff_eq, beq_eq_false_iff_ne, Bool.not_eq_true', Bool.not_eq_false', bne_iff_ne, ne_eq, Decidable.not_not, bne_eq_false_iff_eq, List.length_map] at hc1)
    have hnil : k' = [] := hc1
    subst hnil
    refine aw_exit ?_
    refine then_exit (again_exit (inBlock_here (then_normal ?_)))
    refine aw_seq ?_
    refine aw_region ?_
    apply al_stepN
    · exact op_move_tmp (by rfl)
    · rfl
    · (try dsimp only [zS, zN, zH, zT]); try exact rfl
    apply al_stepN
    · exact op_assign_tmp (by rfl)
    · rfl
    · (try dsimp only [zS, zN, zH, zT]); try exact rfl
    apply al_stepN
    · exact op_assign_const (by rfl)
    · rfl
    · (try dsimp only [zS, zN, zH, zT]); try exact rfl
    apply al_end
    · (try dsimp only [zS, zN, zH, zT]); try exact rfl
    refine then_normal ?_
    refine aw_ret ?_
    refine retPost2 rfl rfl rfl ?_
    have hs : partsL k = some o := by rw [← hps]; exact partsO_end o
    exact ⟨_, by simp only [partsE, hs]; rfl, by simp only [partsA, hs]; exact Weak.lst hv, hh.ext⟩
theorem parts_key_ok (Hs : HS) (a : List (List UInt8)) (hk : (keyL a).length ≤ 1099511627776) : ACalls Try.prog 30 [.d (S (keyL a))] Hs (Ret (.tup [.d (.lst 1 (a.map S)), .d (I 0)]) Hs) := by
  have h := parts_ok Hs (keyL a) hk
  rwa [partsA_key, partsE_key] at h
theorem cut_key_ok (Hs : HS) (p : List UInt8) (ps : List (List UInt8)) (r : List UInt8) (hk : (keyL (p :: ps) ++ r).length ≤ 140737488355328) : ACalls Try.prog 77 [.d (S (keyL (p :: ps) ++ r))] Hs (Ret (.tup [.d (S p), .d (S (keyL ps ++ r)), .d (TF true)]) Hs) := by
  have h := cut_ok Hs (keyL (p :: ps) ++ r) hk
  have e := cut_key p ps r
  simp only [cut1, cut2, cutB, e] at h
  exact h
end Go.Proofs.Ytadkehaagkjbhaa
