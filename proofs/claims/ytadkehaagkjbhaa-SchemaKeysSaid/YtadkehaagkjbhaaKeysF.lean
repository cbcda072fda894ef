/- What the functions of the keys of layer 13 come to. -/
import Derived.Test.YtadkehaagkjbhaaCKeyW
import Derived.Test.YtadkehaagkjbhaaSchKeys
import Derived.KernelRfl
namespace Go.Proofs.Ytadkehaagkjbhaa
open Go.AV Go.AV.Ord Go.AV.Oct Go.AV.Val Go.AV.Sch
set_option linter.unusedVariables false
set_option linter.unusedSimpArgs false
/- Few indexes, of short names? -/
set_option maxRecDepth 100000 in
theorem cfew_ok (Hs : HS) (name : List UInt8) (xs : List Ix) (hl : xs.length ≤ 9223372036854775807) : ACalls Try.prog 19 [.d (.agg [S name, .lst 3 (xs.map ixD)])] Hs (Ret (.d (TF (fewC name xs))) Hs) := by
  refine ACalls.tidy1 ?_
  refine acalls_of_aw Try.func19 rfl ?_
  refine aw_start (T' := [.d (.agg [S name, .lst 3 (xs.map ixD)]), .un, .un, .un, .un, .un, .un, .un, .un, .un, .un, .un, .un, .un, .un, .un, .un, .un, .un, .un, .un, .un, .un, .un, .un, .un, .un, .un, .un, .un, .un, .un, .un]) rfl ?_
  refine aw_seq ?_
  refine aw_region ?_
  apply al_stepN
  · exact op_box_elt (by rfl) (by rfl)
  · rfl
  · (try dsimp only [zS, zN, zH, zT]); try exact rfl
  apply al_stepN
  · exact op_assign_const (by rfl)
  · rfl
  · (try dsimp only [zS, zN, zH, zT]); try exact rfl
  apply al_end
  · (try dsimp only [zS, zN, zH, zT]); try exact rfl
  refine then_normal ?_
  refine aw_seq ?_
  refine aw_seq ?_
  refine aw_region ?_
  apply al_stepN
  · first | exact op_fieldAddr_ptr Try.underlying25 rfl Sz23 (by rfl) (by rfl) | exact op_fieldAddr_elt Try.underlying25 rfl Sz23 (by rfl) (by rfl) (by rfl)
  · rfl
  · (try dsimp only [zS, zN, zH, zT]); try exact rfl
  apply al_stepN
  · first | exact op_load_elt Try.underlying23 (by rfl) (by rfl) (by rfl) | exact op_load_ptr Try.underlying23 (by rfl) (by rfl) (by exact setB_at push_at) (by rfl)
  · rfl
  · (try dsimp only [zS, zN, zH, zT]); try exact rfl
  apply al_stepN
  · exact op_lenL Try.underlying23 (by first | exact LL.d _ _ | exact LL.own _ _ _ | exact LL.nil _ | assumption)
  · rfl
  · (try dsimp only [zS, zN, zH, zT]); try exact rfl
  apply al_stepN
  · exact op_move_const (by rfl)
  · rfl
  · (try dsimp only [zS, zN, zH, zT]); try exact rfl
  apply al_end
  · (try dsimp only [zS, zN, zH, zT]); try exact rfl
  refine then_normal ?_
  refine aw_block ?_
  apply aw_loopF (fun n T H => ∃ (k : Nat), T = [.un, .elt [S name, .lst 3 (xs.map ixD)], .un, .un, .un, .un, .d (.lst 3 (xs.map ixD)), .d (I (xs.map ixD).length), .d (I k), .un, .un, .un, .un, .un, .un, .un, .un, .un, .un, .un, .un, .un, .un, .un, .un, .un, .un, .un, .un, .un, .un, .un, .un] ∧ k ≤ xs.length ∧ n = xs.length - k ∧ (xs.take k).all fewIx = true ∧ Ext Hs H) (xs.length) [false, true, false, false, false, false, true, true, true, false, false, false, false, false, false, false, false, false, false, false, false, false, false, false, false, false, false, false, false, false, false, false, false]
  · (try dsimp only [maskT]); try exact rfl
  · rfl
  · exact ⟨0, rfl, by omega, rfl, rfl, Ext.refl Hs⟩
  rintro n T H ⟨k, rfl, hk, rfl, hall, hx⟩
  refine aw_seq ?_
  refine aw_region ?_
  apply al_stepN
  · exact op_ltI (by rfl) (by rfl)
  · rfl
  · (try dsimp only [zS, zN, zH, zT]); try exact rfl
  apply al_end
  · (try dsimp only [zS, zN, zH, zT]); try exact rfl
  refine then_normal ?_
  refine aw_seq ?_
  refine aw_cond rfl (fun hc1 => ?_) (fun hc1 => ?_)
  · skip
    (try simp only [decide_eq_true_eq, decide_eq_false_iff_not, beq_iff_eq, beq_eq_false_iff_ne, Bool.not_eq_true', Bool.not_eq_false', bne_iff_ne, ne_eq, Decidable.not_not, bne_eq_false_iff_eq, List.length_map] at hc1)
    (try simp only [List.length_map] at hc1)
    have hlt : k < xs.length := by omega
    obtain ⟨y, hy⟩ : ∃ y, xs[k]? = some y := ⟨_, List.getElem?_eq_getElem hlt⟩
    refine aw_skip ?_
    refine then_normal ?_
    refine aw_seq ?_
    refine aw_block ?_
    refine aw_seq ?_
    refine aw_region ?_
    apply al_stepN
    · exact op_indexAddr Try.underlying23 Sz32 (LL.d _ _) (by rfl) (by omega) (show (xs.map ixD)[((k : Nat) : Int).toNat]? = some (ixD y) by rw [List.getElem?_map, show ((k : Nat) : Int).toNat = k from rfl, hy]; rfl) (by rfl)
    · rfl
    · (try dsimp only [zS, zN, zH, zT]); try exact rfl
    apply al_stepN
    · exact op_load_elts (ds := ixC y) Try.underlying32 (by rfl) Sz32 (by rfl) (Nat.le_of_ble_eq_true rfl) (by rfl)
    · rfl
    · (try dsimp only [zS, zN, zH, zT]); try exact rfl
    apply al_stepN
    · exact op_alloc (Zr32) (by rfl)
    · rfl
    · (try dsimp only [zS, zN, zH, zT]); try exact rfl
    apply al_stepN
    · exact op_storeB (vs := [.d (S y.name), .d (S y.field), .d (TF y.uniq)]) (b' := ⟨32, [.d (S y.name), .d (S y.field), .d (TF y.uniq)], false⟩) (H' := _) Sz32 (by rfl) push_at (by intro h; cases h) (by rfl) (by rfl) (Nat.le_of_ble_eq_true rfl) (by simp [AV.one, DV.one, TF, S, I, BY]) (by rfl) (by rfl) rfl
    · rfl
    · (try dsimp only [zS, zN, zH, zT]); try exact rfl
    apply al_end
    · (try dsimp only [zS, zN, zH, zT]); try exact rfl
    refine then_normal ?_
    refine aw_seq ?_
    refine aw_region ?_
    apply al_stepN
    · first | exact op_fieldAddr_ptr Try.underlying32 rfl Sz9 (by rfl) (by rfl) | exact op_fieldAddr_elt Try.underlying32 rfl Sz9 (by rfl) (by rfl) (by rfl)
    · rfl
    · (try dsimp only [zS, zN, zH, zT]); try exact rfl
    apply al_stepN
    · first | exact op_load_elt Try.underlying9 (by rfl) (by rfl) (by rfl) | exact op_load_ptr Try.underlying9 (by rfl) (by rfl) (by exact setB_at push_at) (by rfl)
    · rfl
    · (try dsimp only [zS, zN, zH, zT]); try exact rfl
    apply al_stepN
    · exact op_lenS Try.underlying9 (by rfl)
    · rfl
    · (try dsimp only [zS, zN, zH, zT]); try exact rfl
    apply al_stepN
    · exact op_gtI (by rfl) (by rfl)
    · rfl
    · (try dsimp only [zS, zN, zH, zT]); try exact rfl
    apply al_stepN
    · exact op_move_tmp (by rfl)
    · rfl
    · (try dsimp only [zS, zN, zH, zT]); try exact rfl
    refine al_split 16 rfl (fun hg2 => ?_) (fun hg2 => ?_)
    · skip
      (try simp only [decide_eq_true_eq, decide_eq_false_iff_not, beq_iff_eq, beq_eq_false_iff_ne, Bool.not_eq_true', Bool.not_eq_false', bne_iff_ne, ne_eq, Decidable.not_not, bne_eq_false_iff_eq, List.length_map] at hg2)
      have h60 : ¬ y.name.length ≤ 60 := by have h : 60 < (y.name.length : Int) := hg2; omega
      apply al_normT
      · (try dsimp only [zS, zN, zH, zT]); try exact rfl
      refine al_unwanted rfl rfl rfl rfl ?_
      apply al_normT
      · (try dsimp only [zS, zN, zH, zT]); try exact rfl
      refine al_unwanted rfl rfl rfl rfl ?_
      apply al_normT
      · (try dsimp only [zS, zN, zH, zT]); try exact rfl
      refine al_unwanted rfl rfl rfl rfl ?_
      apply al_normT
      · (try dsimp only [zS, zN, zH, zT]); try exact rfl
      refine al_unwanted rfl rfl rfl rfl ?_
      apply al_normT
      · (try dsimp only [zS, zN, zH, zT]); try exact rfl
      apply al_stepN
      · exact op_pick_tt (by rfl) (val_const (by rfl))
      · rfl
      · (try dsimp only [zS, zN, zH, zT]); try exact rfl
      apply al_end
      · (try dsimp only [zS, zN, zH, zT]); try exact rfl
      refine then_normal ?_
      refine aw_cond rfl (fun _ => ?_) (fun h => by cases h)
      refine aw_seq ?_
      refine aw_region ?_
      apply al_stepN
      · exact op_assign_const (by rfl)
      · rfl
      · (try dsimp only [zS, zN, zH, zT]); try exact rfl
      apply al_end
      · (try dsimp only [zS, zN, zH, zT]); try exact rfl
      refine then_normal ?_
      refine aw_ret ?_
      refine inBlock_ret (then_ret (again_ret (inBlock_ret (then_ret ?_))))
      refine retPost1 rfl rfl ?_
      exact ⟨by rw [fewC_bad hy (by simp [fewIx, h60])]; rfl, (hx.push _ _).setB (nb_le hx)⟩
    · skip
      (try simp only [decide_eq_true_eq, decide_eq_false_iff_not, beq_iff_eq, beq_eq_false_iff_ne, Bool.not_eq_true', Bool.not_eq_false', bne_iff_ne, ne_eq, Decidable.not_not, bne_eq_false_iff_eq, List.length_map] at hg2)
      have h60 : y.name.length ≤ 60 := by have h : ¬ 60 < (y.name.length : Int) := hg2; omega
      apply al_normT
      · (try dsimp only [zS, zN, zH, zT]); try exact rfl
      apply al_wantedN
      · rfl
      · rfl
      · rfl
      · first | exact op_fieldAddr_ptr Try.underlying32 rfl Sz9 (by rfl) (by rfl) | exact op_fieldAddr_elt Try.underlying32 rfl Sz9 (by rfl) (by rfl) (by rfl)
      · (try dsimp only [zS, zN, zH, zT]); try exact rfl
      apply al_wantedN
      · rfl
      · rfl
      · rfl
      · first | exact op_load_elt Try.underlying9 (by rfl) (by rfl) (by rfl) | exact op_load_ptr Try.underlying9 (by rfl) (by rfl) (by exact setB_at push_at) (by rfl)
      · (try dsimp only [zS, zN, zH, zT]); try exact rfl
      apply al_wantedN
      · rfl
      · rfl
      · rfl
      · exact op_lenS Try.underlying9 (by rfl)
      · (try dsimp only [zS, zN, zH, zT]); try exact rfl
      apply al_wantedN
      · rfl
      · rfl
      · rfl
      · exact op_gtI (by rfl) (by rfl)
      · (try dsimp only [zS, zN, zH, zT]); try exact rfl
      apply al_stepN
      · exact op_pick_ff (by rfl) (val_tmp (by rfl))
      · rfl
      · (try dsimp only [zS, zN, zH, zT]); try exact rfl
      apply al_end
      · (try dsimp only [zS, zN, zH, zT]); try exact rfl
      refine then_normal ?_
      refine aw_cond rfl (fun hc4 => ?_) (fun hc4 => ?_)
      · skip
        (try simp only [decide_eq_true_eq, decide_eq_false_iff_not, beq_iff_eq, beq_eq_false_iff_ne, Bool.not_eq_true', Bool.not_eq_false', bne_iff_ne, ne_eq, Decidable.not_not, bne_eq_false_iff_eq, List.length_map] at hc4)
        have hf60 : ¬ y.field.length ≤ 60 := by have h : 60 < (y.field.length : Int) := hc4; omega
        refine aw_seq ?_
        refine aw_region ?_
        apply al_stepN
        · exact op_assign_const (by rfl)
        · rfl
        · (try dsimp only [zS, zN, zH, zT]); try exact rfl
        apply al_end
        · (try dsimp only [zS, zN, zH, zT]); try exact rfl
        refine then_normal ?_
        refine aw_ret ?_
        refine inBlock_ret (then_ret (again_ret (inBlock_ret (then_ret ?_))))
        refine retPost1 rfl rfl ?_
        exact ⟨by rw [fewC_bad hy (by simp [fewIx, hf60])]; rfl, (hx.push _ _).setB (nb_le hx)⟩
      · skip
        (try simp only [decide_eq_true_eq, decide_eq_false_iff_not, beq_iff_eq, beq_eq_false_iff_ne, Bool.not_eq_true', Bool.not_eq_false', bne_iff_ne, ne_eq, Decidable.not_not, bne_eq_false_iff_eq, List.length_map] at hc4)
        have hf60 : y.field.length ≤ 60 := by have h : ¬ 60 < (y.field.length : Int) := hc4; omega
        refine aw_skip ?_
        refine inBlock_normal (then_normal ?_)
        refine aw_region ?_
        apply al_stepN
        · first | exact op_add (by rfl) (by rfl) (wrap_i64 ⟨by omega, by omega⟩) | exact op_add (by rfl) (by rfl) (by rfl)
        · rfl
        · (try dsimp only [zS, zN, zH, zT]); try exact rfl
        apply al_stepN
        · exact op_move_tmp (by rfl)
        · rfl
        · (try dsimp only [zS, zN, zH, zT]); try exact rfl
        apply al_end
        · (try dsimp only [zS, zN, zH, zT]); try exact rfl
        apply again_to (xs.length - (k + 1)) [false, true, false, false, false, false, true, true, true, false, false, false, false, false, false, false, false, false, false, false, false, false, false, false, false, false, false, false, false, false, false, false, false]
        · (try dsimp only [maskT]); try exact rfl
        · rfl
        · omega
        exact ⟨k + 1, rfl, by omega, rfl, fewC_step hy hall h60 hf60, (hx.push _ _).setB (nb_le hx)⟩
  · skip
    (try simp only [decide_eq_true_eq, decide_eq_false_iff_not, beq_iff_eq, beq_eq_false_iff_ne, Bool.not_eq_true', Bool.not_eq_false', bne_iff_ne, ne_eq, Decidable.not_not, bne_eq_false_iff_eq, List.length_map] at hc1)
    (try simp only [List.length_map] at hc1)
    have hke : k = xs.length := by omega
    subst hke
    rw [List.take_length] at hall
    refine aw_exit ?_
    refine then_exit (again_exit (inBlock_here (then_normal ?_)))
    refine aw_seq ?_
    refine aw_region ?_
    apply al_stepN
    · first | exact op_fieldAddr_ptr Try.underlying25 rfl Sz23 (by rfl) (by rfl) | exact op_fieldAddr_elt Try.underlying25 rfl Sz23 (by rfl) (by rfl) (by rfl)
    · rfl
    · (try dsimp only [zS, zN, zH, zT]); try exact rfl
    apply al_stepN
    · first | exact op_load_elt Try.underlying23 (by rfl) (by rfl) (by rfl) | exact op_load_ptr Try.underlying23 (by rfl) (by rfl) (by exact setB_at push_at) (by rfl)
    · rfl
    · (try dsimp only [zS, zN, zH, zT]); try exact rfl
    apply al_stepN
    · exact op_lenL Try.underlying23 (by first | exact LL.d _ _ | exact LL.own _ _ _ | exact LL.nil _ | assumption)
    · rfl
    · (try dsimp only [zS, zN, zH, zT]); try exact rfl
    apply al_stepN
    · exact op_leI (by rfl) (by rfl)
    · rfl
    · (try dsimp only [zS, zN, zH, zT]); try exact rfl
    apply al_stepN
    · exact op_move_tmp (by rfl)
    · rfl
    · (try dsimp only [zS, zN, zH, zT]); try exact rfl
    refine al_split 27 rfl (fun hg5 => ?_) (fun hg5 => ?_)
    · skip
      (try simp only [decide_eq_true_eq, decide_eq_false_iff_not, beq_iff_eq, beq_eq_false_iff_ne, Bool.not_eq_true', Bool.not_eq_false', bne_iff_ne, ne_eq, Decidable.not_not, bne_eq_false_iff_eq, List.length_map] at hg5)
      have h12 : xs.length ≤ 12 := by have h : (xs.length : Int) ≤ 12 := hg5; omega
      apply al_normT
      · (try dsimp only [zS, zN, zH, zT]); try exact rfl
      apply al_wantedN
      · rfl
      · rfl
      · rfl
      · first | exact op_fieldAddr_ptr Try.underlying25 rfl Sz9 (by rfl) (by rfl) | exact op_fieldAddr_elt Try.underlying25 rfl Sz9 (by rfl) (by rfl) (by rfl)
      · (try dsimp only [zS, zN, zH, zT]); try exact rfl
      apply al_wantedN
      · rfl
      · rfl
      · rfl
      · first | exact op_load_elt Try.underlying9 (by rfl) (by rfl) (by rfl) | exact op_load_ptr Try.underlying9 (by rfl) (by rfl) (by exact setB_at push_at) (by rfl)
      · (try dsimp only [zS, zN, zH, zT]); try exact rfl
      apply al_wantedN
      · rfl
      · rfl
      · rfl
      · exact op_lenS Try.underlying9 (by rfl)
      · (try dsimp only [zS, zN, zH, zT]); try exact rfl
      apply al_wantedN
      · rfl
      · rfl
      · rfl
      · exact op_leI (by rfl) (by rfl)
      · (try dsimp only [zS, zN, zH, zT]); try exact rfl
      apply al_stepN
      · exact op_pick_tt (by rfl) (val_tmp (by rfl))
      · rfl
      · (try dsimp only [zS, zN, zH, zT]); try exact rfl
      apply al_stepN
      · exact op_assign_tmp (by rfl)
      · rfl
      · (try dsimp only [zS, zN, zH, zT]); try exact rfl
      apply al_end
      · (try dsimp only [zS, zN, zH, zT]); try exact rfl
      refine then_normal ?_
      refine aw_ret ?_
      refine retPost1 rfl rfl ?_
      exact ⟨by simp only [fewC, hall, h12, TF, decide_true, Bool.true_and]; congr 3; exact decide_eq_decide.2 (by omega), hx⟩
    · skip
      (try simp only [decide_eq_true_eq, decide_eq_false_iff_not, beq_iff_eq, beq_eq_false_iff_ne, Bool.not_eq_true', Bool.not_eq_false', bne_iff_ne, ne_eq, Decidable.not_not, bne_eq_false_iff_eq, List.length_map] at hg5)
      have h12 : ¬ xs.length ≤ 12 := by have h : ¬ (xs.length : Int) ≤ 12 := hg5; omega
      apply al_normT
      · (try dsimp only [zS, zN, zH, zT]); try exact rfl
      refine al_unwanted rfl rfl rfl rfl ?_
      apply al_normT
      · (try dsimp only [zS, zN, zH, zT]); try exact rfl
      refine al_unwanted rfl rfl rfl rfl ?_
      apply al_normT
      · (try dsimp only [zS, zN, zH, zT]); try exact rfl
      refine al_unwanted rfl rfl rfl rfl ?_
      apply al_normT
      · (try dsimp only [zS, zN, zH, zT]); try exact rfl
      refine al_unwanted rfl rfl rfl rfl ?_
      apply al_normT
      · (try dsimp only [zS, zN, zH, zT]); try exact rfl
      apply al_stepN
      · exact op_pick_ff (by rfl) (val_const (by rfl))
      · rfl
      · (try dsimp only [zS, zN, zH, zT]); try exact rfl
      apply al_stepN
      · exact op_assign_tmp (by rfl)
      · rfl
      · (try dsimp only [zS, zN, zH, zT]); try exact rfl
      apply al_end
      · (try dsimp only [zS, zN, zH, zT]); try exact rfl
      refine then_normal ?_
      refine aw_ret ?_
      refine retPost1 rfl rfl ?_
      exact ⟨by simp [fewC, h12, TF], hx⟩
/- Does a text begin with another one? -/
set_option maxRecDepth 100000 in
theorem begP_ok (Hs : HS) (s t : List UInt8) : ACalls Try.prog 22 [.d (S s), .d (S t)] Hs (Ret (.d (TF (begB s t))) Hs) := by
  refine acalls_of_aw Try.func22 rfl ?_
  refine aw_start (T' := [.d (S s), .d (S t), .un, .un, .un, .un, .un, .un, .un, .un, .un, .un, .un, .un, .un, .un, .un, .un]) rfl ?_
  refine aw_seq ?_
  refine aw_region ?_
  apply al_stepN
  · exact op_assign_const (by rfl)
  · rfl
  · (try dsimp only [zS, zN, zH, zT]); try exact rfl
  apply al_end
  · (try dsimp only [zS, zN, zH, zT]); try exact rfl
  refine then_normal ?_
  refine aw_seq ?_
  refine aw_region ?_
  apply al_stepN
  · exact op_move_tmp (by rfl)
  · rfl
  · (try dsimp only [zS, zN, zH, zT]); try exact rfl
  apply al_stepN
  · exact op_lenS Try.underlying9 (by rfl)
  · rfl
  · (try dsimp only [zS, zN, zH, zT]); try exact rfl
  apply al_stepN
  · exact op_move_tmp (by rfl)
  · rfl
  · (try dsimp only [zS, zN, zH, zT]); try exact rfl
  apply al_stepN
  · exact op_lenS Try.underlying9 (by rfl)
  · rfl
  · (try dsimp only [zS, zN, zH, zT]); try exact rfl
  apply al_stepN
  · exact op_geI (by rfl) (by rfl)
  · rfl
  · (try dsimp only [zS, zN, zH, zT]); try exact rfl
  apply al_stepN
  · exact op_move_tmp (by rfl)
  · rfl
  · (try dsimp only [zS, zN, zH, zT]); try exact rfl
  refine al_split 10 rfl (fun hg1 => ?_) (fun hg1 => ?_)
  · skip
    (try simp only [decide_eq_true_eq, decide_eq_false_iff_not, beq_iff_eq, beq_eq_false_iff_ne, Bool.not_eq_true', Bool.not_eq_false', bne_iff_ne, ne_eq, Decidable.not_not, bne_eq_false_iff_eq, List.length_map] at hg1)
    have h0 : t.length ≤ s.length := by have h : (t.length : Int) ≤ s.length := hg1; omega
    apply al_normT
    · (try dsimp only [zS, zN, zH, zT]); try exact rfl
    apply al_wantedN
    · rfl
    · rfl
    · rfl
    · exact op_move_tmp (by rfl)
    · (try dsimp only [zS, zN, zH, zT]); try exact rfl
    apply al_wantedN
    · rfl
    · rfl
    · rfl
    · exact op_move_tmp (by rfl)
    · (try dsimp only [zS, zN, zH, zT]); try exact rfl
    apply al_wantedN
    · rfl
    · rfl
    · rfl
    · exact op_lenS Try.underlying9 (by rfl)
    · (try dsimp only [zS, zN, zH, zT]); try exact rfl
    apply al_wantedN
    · rfl
    · rfl
    · rfl
    · exact op_sliceS0 (s.take t.length) Try.underlying9 (by rfl) (by rfl) (by omega) (by omega) (by rfl)
    · (try dsimp only [zS, zN, zH, zT]); try exact rfl
    apply al_wantedN
    · rfl
    · rfl
    · rfl
    · exact op_move_tmp (by rfl)
    · (try dsimp only [zS, zN, zH, zT]); try exact rfl
    apply al_wantedN
    · rfl
    · rfl
    · rfl
    · exact op_eqS (by rfl) (by rfl)
    · (try dsimp only [zS, zN, zH, zT]); try exact rfl
    apply al_stepN
    · exact op_pick_tt (by rfl) (val_tmp (by rfl))
    · rfl
    · (try dsimp only [zS, zN, zH, zT]); try exact rfl
    apply al_stepN
    · exact op_assign_tmp (by rfl)
    · rfl
    · (try dsimp only [zS, zN, zH, zT]); try exact rfl
    apply al_end
    · (try dsimp only [zS, zN, zH, zT]); try exact rfl
    refine then_normal ?_
    refine aw_ret ?_
    refine retPost1 rfl rfl ?_
    first | exact ⟨by simp [begB, h0, TF], rfl⟩ | exact ⟨by simp [begB, h0, TF]; rfl, rfl⟩
  · skip
    (try simp only [decide_eq_true_eq, decide_eq_false_iff_not, beq_iff_eq, beq_eq_false_iff_ne, Bool.not_eq_true', Bool.not_eq_false', bne_iff_ne, ne_eq, Decidable.not_not, bne_eq_false_iff_eq, List.length_map] at hg1)
    have h0 : ¬ t.length ≤ s.length := by have h : ¬ (t.length : Int) ≤ s.length := hg1; omega
    apply al_normT
    · (try dsimp only [zS, zN, zH, zT]); try exact rfl
    refine al_unwanted rfl rfl rfl rfl ?_
    apply al_normT
    · (try dsimp only [zS, zN, zH, zT]); try exact rfl
    refine al_unwanted rfl rfl rfl rfl ?_
    apply al_normT
    · (try dsimp only [zS, zN, zH, zT]); try exact rfl
    refine al_unwanted rfl rfl rfl rfl ?_
    apply al_normT
    · (try dsimp only [zS, zN, zH, zT]); try exact rfl
    refine al_unwanted rfl rfl rfl rfl ?_
    apply al_normT
    · (try dsimp only [zS, zN, zH, zT]); try exact rfl
    refine al_unwanted rfl rfl rfl rfl ?_
    apply al_normT
    · (try dsimp only [zS, zN, zH, zT]); try exact rfl
    refine al_unwanted rfl rfl rfl rfl ?_
    apply al_normT
    · (try dsimp only [zS, zN, zH, zT]); try exact rfl
    apply al_stepN
    · exact op_pick_ff (by rfl) (val_const (by rfl))
    · rfl
    · (try dsimp only [zS, zN, zH, zT]); try exact rfl
    apply al_stepN
    · exact op_assign_tmp (by rfl)
    · rfl
    · (try dsimp only [zS, zN, zH, zT]); try exact rfl
    apply al_end
    · (try dsimp only [zS, zN, zH, zT]); try exact rfl
    refine then_normal ?_
    refine aw_ret ?_
    refine retPost1 rfl rfl ?_
    first | exact ⟨by simp [begB, h0, TF], rfl⟩ | exact ⟨by simp [begB, h0, TF]; rfl, rfl⟩
set_option maxRecDepth 100000 in
theorem begK_ok (Hs : HS) (s t : List UInt8) : ACalls Try.prog 29 [.d (S s), .d (S t)] Hs (Ret (.d (TF (begB s t))) Hs) := by
  refine acalls_of_aw Try.func29 rfl ?_
  refine aw_start (T' := [.d (S s), .d (S t), .un, .un, .un, .un, .un, .un, .un, .un, .un, .un, .un, .un, .un, .un, .un, .un]) rfl ?_
  refine aw_seq ?_
  refine aw_region ?_
  apply al_stepN
  · exact op_assign_const (by rfl)
  · rfl
  · (try dsimp only [zS, zN, zH, zT]); try exact rfl
  apply al_end
  · (try dsimp only [zS, zN, zH, zT]); try exact rfl
  refine then_normal ?_
  refine aw_seq ?_
  refine aw_region ?_
  apply al_stepN
  · exact op_move_tmp (by rfl)
  · rfl
  · (try dsimp only [zS, zN, zH, zT]); try exact rfl
  apply al_stepN
  · exact op_lenS Try.underlying9 (by rfl)
  · rfl
  · (try dsimp only [zS, zN, zH, zT]); try exact rfl
  apply al_stepN
  · exact op_move_tmp (by rfl)
  · rfl
  · (try dsimp only [zS, zN, zH, zT]); try exact rfl
  apply al_stepN
  · exact op_lenS Try.underlying9 (by rfl)
  · rfl
  · (try dsimp only [zS, zN, zH, zT]); try exact rfl
  apply al_stepN
  · exact op_geI (by rfl) (by rfl)
  · rfl
  · (try dsimp only [zS, zN, zH, zT]); try exact rfl
  apply al_stepN
  · exact op_move_tmp (by rfl)
  · rfl
  · (try dsimp only [zS, zN, zH, zT]); try exact rfl
  refine al_split 10 rfl (fun hg1 => ?_) (fun hg1 => ?_)
  · skip
    (try simp only [decide_eq_true_eq, decide_eq_false_iff_not, beq_iff_eq, beq_eq_false_iff_ne, Bool.not_eq_true', Bool.not_eq_false', bne_iff_ne, ne_eq, Decidable.not_not, bne_eq_false_iff_eq, List.length_map] at hg1)
    have h0 : t.length ≤ s.length := by have h : (t.length : Int) ≤ s.length := hg1; omega
    apply al_normT
    · (try dsimp only [zS, zN, zH, zT]); try exact rfl
    apply al_wantedN
    · rfl
    · rfl
    · rfl
    · exact op_move_tmp (by rfl)
    · (try dsimp only [zS, zN, zH, zT]); try exact rfl
    apply al_wantedN
    · rfl
    · rfl
    · rfl
    · exact op_move_tmp (by rfl)
    · (try dsimp only [zS, zN, zH, zT]); try exact rfl
    apply al_wantedN
    · rfl
    · rfl
    · rfl
    · exact op_lenS Try.underlying9 (by rfl)
    · (try dsimp only [zS, zN, zH, zT]); try exact rfl
    apply al_wantedN
    · rfl
    · rfl
    · rfl
    · exact op_sliceS0 (s.take t.length) Try.underlying9 (by rfl) (by rfl) (by omega) (by omega) (by rfl)
    · (try dsimp only [zS, zN, zH, zT]); try exact rfl
    apply al_wantedN
    · rfl
    · rfl
    · rfl
    · exact op_move_tmp (by rfl)
    · (try dsimp only [zS, zN, zH, zT]); try exact rfl
    apply al_wantedN
    · rfl
    · rfl
    · rfl
    · exact op_eqS (by rfl) (by rfl)
    · (try dsimp only [zS, zN, zH, zT]); try exact rfl
    apply al_stepN
    · exact op_pick_tt (by rfl) (val_tmp (by rfl))
    · rfl
    · (try dsimp only [zS, zN, zH, zT]); try exact rfl
    apply al_stepN
    · exact op_assign_tmp (by rfl)
    · rfl
    · (try dsimp only [zS, zN, zH, zT]); try exact rfl
    apply al_end
    · (try dsimp only [zS, zN, zH, zT]); try exact rfl
    refine then_normal ?_
    refine aw_ret ?_
    refine retPost1 rfl rfl ?_
    first | exact ⟨by simp [begB, h0, TF], rfl⟩ | exact ⟨by simp [begB, h0, TF]; rfl, rfl⟩
  · skip
    (try simp only [decide_eq_true_eq, decide_eq_false_iff_not, beq_iff_eq, beq_eq_false_iff_ne, Bool.not_eq_true', Bool.not_eq_false', bne_iff_ne, ne_eq, Decidable.not_not, bne_eq_false_iff_eq, List.length_map] at hg1)
    have h0 : ¬ t.length ≤ s.length := by have h : ¬ (t.length : Int) ≤ s.length := hg1; omega
    apply al_normT
    · (try dsimp only [zS, zN, zH, zT]); try exact rfl
    refine al_unwanted rfl rfl rfl rfl ?_
    apply al_normT
    · (try dsimp only [zS, zN, zH, zT]); try exact rfl
    refine al_unwanted rfl rfl rfl rfl ?_
    apply al_normT
    · (try dsimp only [zS, zN, zH, zT]); try exact rfl
    refine al_unwanted rfl rfl rfl rfl ?_
    apply al_normT
    · (try dsimp only [zS, zN, zH, zT]); try exact rfl
    refine al_unwanted rfl rfl rfl rfl ?_
    apply al_normT
    · (try dsimp only [zS, zN, zH, zT]); try exact rfl
    refine al_unwanted rfl rfl rfl rfl ?_
    apply al_normT
    · (try dsimp only [zS, zN, zH, zT]); try exact rfl
    refine al_unwanted rfl rfl rfl rfl ?_
    apply al_normT
    · (try dsimp only [zS, zN, zH, zT]); try exact rfl
    apply al_stepN
    · exact op_pick_ff (by rfl) (val_const (by rfl))
    · rfl
    · (try dsimp only [zS, zN, zH, zT]); try exact rfl
    apply al_stepN
    · exact op_assign_tmp (by rfl)
    · rfl
    · (try dsimp only [zS, zN, zH, zT]); try exact rfl
    apply al_end
    · (try dsimp only [zS, zN, zH, zT]); try exact rfl
    refine then_normal ?_
    refine aw_ret ?_
    refine retPost1 rfl rfl ?_
    first | exact ⟨by simp [begB, h0, TF], rfl⟩ | exact ⟨by simp [begB, h0, TF]; rfl, rfl⟩
/- Where a document is kept. -/
set_option maxRecDepth 100000 in
theorem cdoc_ok (Hs : HS) (cn : List UInt8) (z : DV) (id : List UInt8) (hb : cn.length ≤ 1000000) (hi : id.length ≤ 1000000) : ACalls Try.prog 25 [.d (.agg [S cn, z]), .d (S id)] Hs (Ret (.d (S (keyL [[100], cn, id]))) Hs) := by
  refine acalls_of_aw Try.func25 rfl ?_
  refine aw_start (T' := [.d (.agg [S cn, z]), .d (S id), .un, .un, .un, .un, .un, .un, .un, .un]) rfl ?_
  refine aw_seq ?_
  refine aw_region ?_
  apply al_stepN
  · exact op_box_elt (by rfl) (by rfl)
  · rfl
  · (try dsimp only [zS, zN, zH, zT]); try exact rfl
  apply al_stepN
  · exact op_assign_const (by rfl)
  · rfl
  · (try dsimp only [zS, zN, zH, zT]); try exact rfl
  apply al_end
  · (try dsimp only [zS, zN, zH, zT]); try exact rfl
  refine then_normal ?_
  refine aw_seq ?_
  refine aw_region ?_
  apply al_stepN
  · first | exact op_fieldAddr_ptr Try.underlying25 rfl Sz9 (by rfl) (by rfl) | exact op_fieldAddr_elt Try.underlying25 rfl Sz9 (by rfl) (by rfl) (by rfl)
  · rfl
  · (try dsimp only [zS, zN, zH, zT]); try exact rfl
  apply al_stepN
  · first | exact op_load_elt Try.underlying9 (by rfl) (by rfl) (by rfl) | exact op_load_ptr Try.underlying9 (by rfl) (by rfl) (by rfl) (by rfl)
  · rfl
  · (try dsimp only [zS, zN, zH, zT]); try exact rfl
  apply al_stepN
  · exact op_move_tmp (by rfl)
  · rfl
  · (try dsimp only [zS, zN, zH, zT]); try exact rfl
  apply al_stepN
  · exact op_lit Try.underlying46 ZS9 (.cons (by rfl) (.cons (by rfl) (.cons (by rfl) (.nil _)))) (by rfl) (by simp [BY, S, I, TF, DV.cells]) (by simp [flat, BY, S, I, TF, DV.cells, DV.one]) (by decide)
  · rfl
  · (try dsimp only [zS, zN, zH, zT]); try exact rfl
  apply al_stepN
  · exact op_callF Try.func31 (by rfl) (by rfl) (.tmp (by rfl) .nil) (key_ok _ _ [[100], cn, id] (LL.own _ _ _) (by simp; omega))
  · rfl
  · (try dsimp only [zS, zN, zH, zT]); try exact rfl
  apply al_stepN
  · exact op_assign_tmp (by rfl)
  · rfl
  · (try dsimp only [zS, zN, zH, zT]); try exact rfl
  apply al_end
  · (try dsimp only [zS, zN, zH, zT]); try exact rfl
  refine then_normal ?_
  refine aw_ret ?_
  refine retPost1 rfl rfl ?_
  exact ⟨rfl, rfl⟩
/- Ahead of where all documents are kept. -/
set_option maxRecDepth 100000 in
theorem cdocs_ok (Hs : HS) (cn : List UInt8) (z : DV) (hb : cn.length ≤ 1000000) : ACalls Try.prog 26 [.d (.agg [S cn, z])] Hs (Ret (.d (S (keyL [[100], cn]))) Hs) := by
  refine acalls_of_aw Try.func26 rfl ?_
  refine aw_start (T' := [.d (.agg [S cn, z]), .un, .un, .un, .un, .un, .un]) rfl ?_
  refine aw_seq ?_
  refine aw_region ?_
  apply al_stepN
  · exact op_box_elt (by rfl) (by rfl)
  · rfl
  · (try dsimp only [zS, zN, zH, zT]); try exact rfl
  apply al_stepN
  · exact op_assign_const (by rfl)
  · rfl
  · (try dsimp only [zS, zN, zH, zT]); try exact rfl
  apply al_end
  · (try dsimp only [zS, zN, zH, zT]); try exact rfl
  refine then_normal ?_
  refine aw_seq ?_
  refine aw_region ?_
  apply al_stepN
  · first | exact op_fieldAddr_ptr Try.underlying25 rfl Sz9 (by rfl) (by rfl) | exact op_fieldAddr_elt Try.underlying25 rfl Sz9 (by rfl) (by rfl) (by rfl)
  · rfl
  · (try dsimp only [zS, zN, zH, zT]); try exact rfl
  apply al_stepN
  · first | exact op_load_elt Try.underlying9 (by rfl) (by rfl) (by rfl) | exact op_load_ptr Try.underlying9 (by rfl) (by rfl) (by rfl) (by rfl)
  · rfl
  · (try dsimp only [zS, zN, zH, zT]); try exact rfl
  apply al_stepN
  · exact op_lit Try.underlying46 ZS9 (.cons (by rfl) (.cons (by rfl) (.nil _))) (by rfl) (by simp [BY, S, I, TF, DV.cells]) (by simp [flat, BY, S, I, TF, DV.cells, DV.one]) (by decide)
  · rfl
  · (try dsimp only [zS, zN, zH, zT]); try exact rfl
  apply al_stepN
  · exact op_callF Try.func31 (by rfl) (by rfl) (.tmp (by rfl) .nil) (key_ok _ _ [[100], cn] (LL.own _ _ _) (by simp; omega))
  · rfl
  · (try dsimp only [zS, zN, zH, zT]); try exact rfl
  apply al_stepN
  · exact op_assign_tmp (by rfl)
  · rfl
  · (try dsimp only [zS, zN, zH, zT]); try exact rfl
  apply al_end
  · (try dsimp only [zS, zN, zH, zT]); try exact rfl
  refine then_normal ?_
  refine aw_ret ?_
  refine retPost1 rfl rfl ?_
  exact ⟨rfl, rfl⟩
/- Ahead of where an index has all its values. -/
set_option maxRecDepth 100000 in
theorem centries_ok (Hs : HS) (cn : List UInt8) (z : DV) (xn : List UInt8) (zf : DV) (u : Bool) (hb : cn.length ≤ 1000000) (hx : xn.length ≤ 1000000) : ACalls Try.prog 27 [.d (.agg [S cn, z]), .d (.agg [S xn, zf, TF u])] Hs (Ret (.d (S (keyL [[105], cn, xn]))) Hs) := by
  refine acalls_of_aw Try.func27 rfl ?_
  refine aw_start (T' := [.d (.agg [S cn, z]), .d (.agg [S xn, zf, TF u]), .un, .un, .un, .un, .un, .un, .un, .un, .un]) rfl ?_
  refine aw_seq ?_
  refine aw_region ?_
  apply al_stepN
  · exact op_box_elt (by rfl) (by rfl)
  · rfl
  · (try dsimp only [zS, zN, zH, zT]); try exact rfl
  apply al_stepN
  · exact op_box_elt (by rfl) (by rfl)
  · rfl
  · (try dsimp only [zS, zN, zH, zT]); try exact rfl
  apply al_stepN
  · exact op_assign_const (by rfl)
  · rfl
  · (try dsimp only [zS, zN, zH, zT]); try exact rfl
  apply al_end
  · (try dsimp only [zS, zN, zH, zT]); try exact rfl
  refine then_normal ?_
  refine aw_seq ?_
  refine aw_region ?_
  apply al_stepN
  · first | exact op_fieldAddr_ptr Try.underlying25 rfl Sz9 (by rfl) (by rfl) | exact op_fieldAddr_elt Try.underlying25 rfl Sz9 (by rfl) (by rfl) (by rfl)
  · rfl
  · (try dsimp only [zS, zN, zH, zT]); try exact rfl
  apply al_stepN
  · first | exact op_load_elt Try.underlying9 (by rfl) (by rfl) (by rfl) | exact op_load_ptr Try.underlying9 (by rfl) (by rfl) (by rfl) (by rfl)
  · rfl
  · (try dsimp only [zS, zN, zH, zT]); try exact rfl
  apply al_stepN
  · first | exact op_fieldAddr_ptr Try.underlying32 rfl Sz9 (by rfl) (by rfl) | exact op_fieldAddr_elt Try.underlying32 rfl Sz9 (by rfl) (by rfl) (by rfl)
  · rfl
  · (try dsimp only [zS, zN, zH, zT]); try exact rfl
  apply al_stepN
  · first | exact op_load_elt Try.underlying9 (by rfl) (by rfl) (by rfl) | exact op_load_ptr Try.underlying9 (by rfl) (by rfl) (by rfl) (by rfl)
  · rfl
  · (try dsimp only [zS, zN, zH, zT]); try exact rfl
  apply al_stepN
  · exact op_lit Try.underlying46 ZS9 (.cons (by rfl) (.cons (by rfl) (.cons (by rfl) (.nil _)))) (by rfl) (by simp [BY, S, I, TF, DV.cells]) (by simp [flat, BY, S, I, TF, DV.cells, DV.one]) (by decide)
  · rfl
  · (try dsimp only [zS, zN, zH, zT]); try exact rfl
  apply al_stepN
  · exact op_callF Try.func31 (by rfl) (by rfl) (.tmp (by rfl) .nil) (key_ok _ _ [[105], cn, xn] (LL.own _ _ _) (by simp; omega))
  · rfl
  · (try dsimp only [zS, zN, zH, zT]); try exact rfl
  apply al_stepN
  · exact op_assign_tmp (by rfl)
  · rfl
  · (try dsimp only [zS, zN, zH, zT]); try exact rfl
  apply al_end
  · (try dsimp only [zS, zN, zH, zT]); try exact rfl
  refine then_normal ?_
  refine aw_ret ?_
  refine retPost1 rfl rfl ?_
  exact ⟨rfl, rfl⟩
end Go.Proofs.Ytadkehaagkjbhaa
