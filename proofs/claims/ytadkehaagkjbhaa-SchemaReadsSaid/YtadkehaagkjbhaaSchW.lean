/- What the functions of layer 13 come to. -/
import Derived.Test.YtadkehaagkjbhaaOctW
import Derived.Test.YtadkehaagkjbhaaOctV
import Derived.Test.YtadkehaagkjbhaaOrdW
import Derived.Test.YtadkehaagkjbhaaSchPlain
import Derived.Test.YtadkehaagkjbhaaA16
import Derived.KernelRfl
namespace Go.Proofs.Ytadkehaagkjbhaa
open Go.AV Go.AV.Ord Go.AV.Oct Go.AV.Sch
set_option linter.unusedVariables false
set_option linter.unusedSimpArgs false
/- Names. -/
set_option maxRecDepth 100000 in
theorem name_ok (Hs : HS) (s : List UInt8) : ACalls Try.prog 60 [.d (S s)] Hs (Ret (.d (TF (nameB s))) Hs) := by
  refine acalls_of_aw Try.func60 rfl ?_
  refine aw_start (T' := [.d (S s), .un, .un, .un, .un, .un, .un, .un, .un, .un]) rfl ?_
  refine aw_seq ?_
  refine aw_region ?_
  apply al_stepN
  · exact op_assign_const (by rfl)
  · rfl
  · (try dsimp only [putT, List.set_cons_zero, List.set_cons_succ]); try exact rfl
  apply al_end
  · (try dsimp only [putT, List.set_cons_zero, List.set_cons_succ]); try exact rfl
  refine then_normal ?_
  refine aw_seq ?_
  refine aw_region ?_
  apply al_stepN
  · exact op_move_tmp (by rfl)
  · rfl
  · (try dsimp only [putT, List.set_cons_zero, List.set_cons_succ]); try exact rfl
  apply al_stepN
  · exact op_neS (by rfl) (by rfl)
  · rfl
  · (try dsimp only [putT, List.set_cons_zero, List.set_cons_succ]); try exact rfl
  apply al_stepN
  · exact op_move_tmp (by rfl)
  · rfl
  · (try dsimp only [putT, List.set_cons_zero, List.set_cons_succ]); try exact rfl
  refine al_split 5 rfl (fun hg1 => ?_) (fun hg1 => ?_)
  · skip
    (try simp only [decide_eq_true_eq, decide_eq_false_iff_not, beq_iff_eq, beq_eq_false_iff_ne, Bool.not_eq_true', Bool.not_eq_false', bne_iff_ne, ne_eq, Decidable.not_not, bne_eq_false_iff_eq, List.length_map] at hg1)
    have h0 : ¬ s = [] := hg1
    apply al_normT
    · (try dsimp only [putT, List.set_cons_zero, List.set_cons_succ]); try exact rfl
    apply al_wantedN
    · rfl
    · rfl
    · rfl
    · exact op_move_tmp (by rfl)
    · (try dsimp only [putT, List.set_cons_zero, List.set_cons_succ]); try exact rfl
    apply al_wantedN
    · rfl
    · rfl
    · rfl
    · exact op_lenS Try.underlying9 (by rfl)
    · (try dsimp only [putT, List.set_cons_zero, List.set_cons_succ]); try exact rfl
    apply al_wantedN
    · rfl
    · rfl
    · rfl
    · exact op_leI (by rfl) (by rfl)
    · (try dsimp only [putT, List.set_cons_zero, List.set_cons_succ]); try exact rfl
    apply al_stepN
    · exact op_pick_tt (by rfl) (val_tmp (by rfl))
    · rfl
    · (try dsimp only [putT, List.set_cons_zero, List.set_cons_succ]); try exact rfl
    apply al_stepN
    · exact op_assign_tmp (by rfl)
    · rfl
    · (try dsimp only [putT, List.set_cons_zero, List.set_cons_succ]); try exact rfl
    apply al_end
    · (try dsimp only [putT, List.set_cons_zero, List.set_cons_succ]); try exact rfl
    refine then_normal ?_
    refine aw_ret ?_
    refine retPost1 rfl rfl ?_
    exact ⟨by (rw [nameB_ne h0]) <;> rfl, rfl⟩
  · skip
    (try simp only [decide_eq_true_eq, decide_eq_false_iff_not, beq_iff_eq, beq_eq_false_iff_ne, Bool.not_eq_true', Bool.not_eq_false', bne_iff_ne, ne_eq, Decidable.not_not, bne_eq_false_iff_eq, List.length_map] at hg1)
    have h0 : s = [] := hg1
    apply al_normT
    · (try dsimp only [putT, List.set_cons_zero, List.set_cons_succ]); try exact rfl
    refine al_unwanted rfl rfl rfl rfl ?_
    apply al_normT
    · (try dsimp only [putT, List.set_cons_zero, List.set_cons_succ]); try exact rfl
    refine al_unwanted rfl rfl rfl rfl ?_
    apply al_normT
    · (try dsimp only [putT, List.set_cons_zero, List.set_cons_succ]); try exact rfl
    refine al_unwanted rfl rfl rfl rfl ?_
    apply al_normT
    · (try dsimp only [putT, List.set_cons_zero, List.set_cons_succ]); try exact rfl
    apply al_stepN
    · exact op_pick_ff (by rfl) (val_const (by rfl))
    · rfl
    · (try dsimp only [putT, List.set_cons_zero, List.set_cons_succ]); try exact rfl
    apply al_stepN
    · exact op_assign_tmp (by rfl)
    · rfl
    · (try dsimp only [putT, List.set_cons_zero, List.set_cons_succ]); try exact rfl
    apply al_end
    · (try dsimp only [putT, List.set_cons_zero, List.set_cons_succ]); try exact rfl
    refine then_normal ?_
    refine aw_ret ?_
    refine retPost1 rfl rfl ?_
    exact ⟨by subst h0; rfl, rfl⟩
/- Is an index called as another one? -/
set_option maxRecDepth 100000 in
theorem called_ok (Hs : HS) (x y : Ix) : ACalls Try.prog 62 [.d (ixD x), .d (ixD y)] Hs (Ret (.d (TF (x.name == y.name))) Hs) := by
  refine acalls_of_aw Try.func62 rfl ?_
  refine aw_start (T' := [.d (ixD x), .d (ixD y), .un, .un, .un, .un, .un, .un, .un, .un]) rfl ?_
  refine aw_seq ?_
  refine aw_region ?_
  apply al_stepN
  · exact op_box_elt (by rfl) (by rfl)
  · rfl
  · (try dsimp only [putT, List.set_cons_zero, List.set_cons_succ]); try exact rfl
  apply al_stepN
  · exact op_box_elt (by rfl) (by rfl)
  · rfl
  · (try dsimp only [putT, List.set_cons_zero, List.set_cons_succ]); try exact rfl
  apply al_stepN
  · exact op_assign_const (by rfl)
  · rfl
  · (try dsimp only [putT, List.set_cons_zero, List.set_cons_succ]); try exact rfl
  apply al_end
  · (try dsimp only [putT, List.set_cons_zero, List.set_cons_succ]); try exact rfl
  refine then_normal ?_
  refine aw_seq ?_
  refine aw_region ?_
  apply al_stepN
  · first | exact op_fieldAddr_ptr Try.underlying32 rfl Sz9 (by rfl) (by rfl) | exact op_fieldAddr_elt Try.underlying32 rfl Sz9 (by rfl) (by rfl) (by rfl)
  · rfl
  · (try dsimp only [putT, List.set_cons_zero, List.set_cons_succ]); try exact rfl
  apply al_stepN
  · first | exact op_load_elt Try.underlying9 (by rfl) (by rfl) (by rfl) | exact op_load_ptr Try.underlying9 (by rfl) (by rfl) (by rfl) (by rfl)
  · rfl
  · (try dsimp only [putT, List.set_cons_zero, List.set_cons_succ]); try exact rfl
  apply al_stepN
  · first | exact op_fieldAddr_ptr Try.underlying32 rfl Sz9 (by rfl) (by rfl) | exact op_fieldAddr_elt Try.underlying32 rfl Sz9 (by rfl) (by rfl) (by rfl)
  · rfl
  · (try dsimp only [putT, List.set_cons_zero, List.set_cons_succ]); try exact rfl
  apply al_stepN
  · first | exact op_load_elt Try.underlying9 (by rfl) (by rfl) (by rfl) | exact op_load_ptr Try.underlying9 (by rfl) (by rfl) (by rfl) (by rfl)
  · rfl
  · (try dsimp only [putT, List.set_cons_zero, List.set_cons_succ]); try exact rfl
  apply al_stepN
  · exact op_eqS (by rfl) (by rfl)
  · rfl
  · (try dsimp only [putT, List.set_cons_zero, List.set_cons_succ]); try exact rfl
  apply al_stepN
  · exact op_assign_tmp (by rfl)
  · rfl
  · (try dsimp only [putT, List.set_cons_zero, List.set_cons_succ]); try exact rfl
  apply al_end
  · (try dsimp only [putT, List.set_cons_zero, List.set_cons_succ]); try exact rfl
  refine then_normal ?_
  refine aw_ret ?_
  refine retPost1 rfl rfl ?_
  exact ⟨rfl, rfl⟩
/- The first index of a list that is called so. -/
set_option maxRecDepth 100000 in
theorem index_ok (Hs : HS) (xs : List Ix) (x : Ix) (hl : xs.length ≤ 1000000) : ACalls Try.prog 84 [.d (.lst 3 (xs.map ixD)), .fn (.func 62) [.d (ixD x)] []] Hs (fun av H' => H' = Hs ∧ ∃ r : Int, av = .d (I r) ∧ decide (0 ≤ r) = xs.any fun y => x.name == y.name) := by
  refine acalls_of_aw Try.func84 rfl ?_
  refine aw_start (T' := [.d (.lst 3 (xs.map ixD)), .fn (.func 62) [.d (ixD x)] [], .un, .un, .un, .un, .un, .un, .un, .un, .un, .un, .un, .un, .un, .un, .un, .un, .un]) rfl ?_
  refine aw_seq ?_
  refine aw_region ?_
  apply al_stepN
  · exact op_assign_const (by rfl)
  · rfl
  · (try dsimp only [putT, List.set_cons_zero, List.set_cons_succ]); try exact rfl
  apply al_end
  · (try dsimp only [putT, List.set_cons_zero, List.set_cons_succ]); try exact rfl
  refine then_normal ?_
  refine aw_seq ?_
  refine aw_seq ?_
  refine aw_region ?_
  apply al_stepN
  · exact op_move_tmp (by rfl)
  · rfl
  · (try dsimp only [putT, List.set_cons_zero, List.set_cons_succ]); try exact rfl
  apply al_stepN
  · exact op_lenL Try.underlying23 (by first | exact LL.d _ _ | exact LL.own _ _ _ | exact LL.nil _ | assumption)
  · rfl
  · (try dsimp only [putT, List.set_cons_zero, List.set_cons_succ]); try exact rfl
  apply al_stepN
  · exact op_move_const (by rfl)
  · rfl
  · (try dsimp only [putT, List.set_cons_zero, List.set_cons_succ]); try exact rfl
  apply al_end
  · (try dsimp only [putT, List.set_cons_zero, List.set_cons_succ]); try exact rfl
  refine then_normal ?_
  refine aw_block ?_
  apply aw_loopF (fun n T H => ∃ (k : Nat), T = [.d (.lst 3 (xs.map ixD)), .fn (.func 62) [.d (ixD x)] [], .un, .un, .un, .un, .un, .d (I (xs.map ixD).length), .d (I k), .un, .un, .un, .un, .un, .un, .un, .un, .un, .un] ∧ k ≤ xs.length ∧ n = xs.length - k ∧ ((xs.take k).any fun y => x.name == y.name) = false ∧ Hs = H) (xs.length) [true, true, false, false, false, false, false, true, true, false, false, false, false, false, false, false, false, false, false]
  · (try dsimp only [maskT]); try exact rfl
  · rfl
  · exact ⟨0, rfl, by omega, rfl, by simp, rfl⟩
  rintro n T H ⟨k, rfl, hk, rfl, hn, rfl⟩
  refine aw_seq ?_
  refine aw_region ?_
  apply al_stepN
  · exact op_ltI (by rfl) (by rfl)
  · rfl
  · (try dsimp only [putT, List.set_cons_zero, List.set_cons_succ]); try exact rfl
  apply al_end
  · (try dsimp only [putT, List.set_cons_zero, List.set_cons_succ]); try exact rfl
  refine then_normal ?_
  refine aw_seq ?_
  refine aw_cond rfl (fun hc1 => ?_) (fun hc1 => ?_)
  · skip
    (try simp only [decide_eq_true_eq, decide_eq_false_iff_not, beq_iff_eq, beq_eq_false_iff_ne, Bool.not_eq_true', Bool.not_eq_false', bne_iff_ne, ne_eq, Decidable.not_not, bne_eq_false_iff_eq, List.length_map] at hc1)
    (try simp only [List.length_map] at hc1)
    have hlt : k < xs.length := by omega
    obtain ⟨y, hy⟩ : ∃ y, xs[k]? = some y := ⟨_, List.getElem?_eq_getElem hlt⟩
    refine aw_skip ?_
    refine then_normal ?_
    refine aw_seq ?_
    refine aw_block ?_
    refine aw_seq ?_
    refine aw_region ?_
    apply al_stepN
    · exact op_move_tmp (by rfl)
    · rfl
    · (try dsimp only [putT, List.set_cons_zero, List.set_cons_succ]); try exact rfl
    apply al_stepN
    · exact op_assign_tmp (by rfl)
    · rfl
    · (try dsimp only [putT, List.set_cons_zero, List.set_cons_succ]); try exact rfl
    apply al_end
    · (try dsimp only [putT, List.set_cons_zero, List.set_cons_succ]); try exact rfl
    refine then_normal ?_
    refine aw_seq ?_
    refine aw_region ?_
    apply al_stepN
    · exact op_move_tmp (by rfl)
    · rfl
    · (try dsimp only [putT, List.set_cons_zero, List.set_cons_succ]); try exact rfl
    apply al_stepN
    · exact op_move_tmp (by rfl)
    · rfl
    · (try dsimp only [putT, List.set_cons_zero, List.set_cons_succ]); try exact rfl
    apply al_stepN
    · exact op_move_tmp (by rfl)
    · rfl
    · (try dsimp only [putT, List.set_cons_zero, List.set_cons_succ]); try exact rfl
    apply al_stepN
    · exact op_indexAddr Try.underlying23 Sz32 (LL.d _ _) (by rfl) (by omega) (show (xs.map ixD)[((k : Nat) : Int).toNat]? = some (ixD y) by rw [List.getElem?_map, show ((k : Nat) : Int).toNat = k from rfl, hy]; rfl) (by rfl)
    · rfl
    · (try dsimp only [putT, List.set_cons_zero, List.set_cons_succ]); try exact rfl
    apply al_stepN
    · exact op_load_elts (ds := ixC y) Try.underlying32 (by rfl) Sz32 (by rfl) (Nat.le_of_ble_eq_true rfl) (by rfl)
    · rfl
    · (try dsimp only [putT, List.set_cons_zero, List.set_cons_succ]); try exact rfl
    apply al_stepN
    · exact op_callV (by rfl) Try.func62 (by rfl) (by rfl) (.tmp (by rfl) .nil) (called_ok _ x y)
    · rfl
    · (try dsimp only [putT, List.set_cons_zero, List.set_cons_succ]); try exact rfl
    apply al_end
    · (try dsimp only [putT, List.set_cons_zero, List.set_cons_succ]); try exact rfl
    refine then_normal ?_
    refine aw_cond rfl (fun hc2 => ?_) (fun hc2 => ?_)
    · skip
      (try simp only [decide_eq_true_eq, decide_eq_false_iff_not, beq_iff_eq, beq_eq_false_iff_ne, Bool.not_eq_true', Bool.not_eq_false', bne_iff_ne, ne_eq, Decidable.not_not, bne_eq_false_iff_eq, List.length_map] at hc2)
      have hc : x.name = y.name := hc2
      refine aw_seq ?_
      refine aw_region ?_
      apply al_stepN
      · exact op_move_tmp (by rfl)
      · rfl
      · (try dsimp only [putT, List.set_cons_zero, List.set_cons_succ]); try exact rfl
      apply al_stepN
      · exact op_assign_tmp (by rfl)
      · rfl
      · (try dsimp only [putT, List.set_cons_zero, List.set_cons_succ]); try exact rfl
      apply al_end
      · (try dsimp only [putT, List.set_cons_zero, List.set_cons_succ]); try exact rfl
      refine then_normal ?_
      refine aw_ret ?_
      refine inBlock_ret (then_ret (again_ret (inBlock_ret (then_ret ?_))))
      refine retPost1 rfl rfl ?_
      exact ⟨rfl, _, rfl, by rw [show decide ((0 : Int) ≤ (k : Int)) = true by simp]; symm; rw [List.any_eq_true]; exact ⟨y, List.mem_of_getElem? hy, by simp [hc]⟩⟩
    · skip
      (try simp only [decide_eq_true_eq, decide_eq_false_iff_not, beq_iff_eq, beq_eq_false_iff_ne, Bool.not_eq_true', Bool.not_eq_false', bne_iff_ne, ne_eq, Decidable.not_not, bne_eq_false_iff_eq, List.length_map] at hc2)
      have hc : ¬ x.name = y.name := hc2
      refine aw_skip ?_
      refine inBlock_normal (then_normal ?_)
      refine aw_region ?_
      apply al_stepN
      · first | exact op_add (by rfl) (by rfl) (wrap_i64 ⟨by omega, by omega⟩) | exact op_add (by rfl) (by rfl) (by rfl)
      · rfl
      · (try dsimp only [putT, List.set_cons_zero, List.set_cons_succ]); try exact rfl
      apply al_stepN
      · exact op_move_tmp (by rfl)
      · rfl
      · (try dsimp only [putT, List.set_cons_zero, List.set_cons_succ]); try exact rfl
      apply al_end
      · (try dsimp only [putT, List.set_cons_zero, List.set_cons_succ]); try exact rfl
      apply again_to (xs.length - (k + 1)) [true, true, false, false, false, false, false, true, true, false, false, false, false, false, false, false, false, false, false]
      · (try dsimp only [maskT]); try exact rfl
      · rfl
      · omega
      exact ⟨k + 1, rfl, by omega, rfl, by rw [take_snoc hy, List.any_append, hn]; simpa using hc, rfl⟩
  · skip
    (try simp only [decide_eq_true_eq, decide_eq_false_iff_not, beq_iff_eq, beq_eq_false_iff_ne, Bool.not_eq_true', Bool.not_eq_false', bne_iff_ne, ne_eq, Decidable.not_not, bne_eq_false_iff_eq, List.length_map] at hc1)
    (try simp only [List.length_map] at hc1)
    have hke : k = xs.length := by omega
    subst hke
    rw [List.take_length] at hn
    refine aw_exit ?_
    refine then_exit (again_exit (inBlock_here (then_normal ?_)))
    refine aw_seq ?_
    refine aw_region ?_
    apply al_stepN
    · exact op_assign_const (by rfl)
    · rfl
    · (try dsimp only [putT, List.set_cons_zero, List.set_cons_succ]); try exact rfl
    apply al_end
    · (try dsimp only [putT, List.set_cons_zero, List.set_cons_succ]); try exact rfl
    refine then_normal ?_
    refine aw_ret ?_
    refine retPost1 rfl rfl ?_
    exact ⟨rfl, _, rfl, by rw [hn]; rfl⟩
/- Is one of a list called so? -/
set_option maxRecDepth 100000 in
theorem contains_ok (Hs : HS) (xs : List Ix) (x : Ix) (hl : xs.length ≤ 1000000) : ACalls Try.prog 61 [.d (.lst 3 (xs.map ixD)), .fn (.func 62) [.d (ixD x)] []] Hs (Ret (.d (TF (xs.any fun y => x.name == y.name))) Hs) := by
  refine acalls_of_aw Try.func61 rfl ?_
  refine aw_start (T' := [.d (.lst 3 (xs.map ixD)), .fn (.func 62) [.d (ixD x)] [], .un, .un, .un, .un, .un, .un, .un]) rfl ?_
  refine aw_seq ?_
  refine aw_region ?_
  apply al_stepN
  · exact op_assign_const (by rfl)
  · rfl
  · (try dsimp only [putT, List.set_cons_zero, List.set_cons_succ]); try exact rfl
  apply al_end
  · (try dsimp only [putT, List.set_cons_zero, List.set_cons_succ]); try exact rfl
  refine then_normal ?_
  refine aw_seq ?_
  refine aw_region ?_
  apply al_stepN
  · exact op_move_tmp (by rfl)
  · rfl
  · (try dsimp only [putT, List.set_cons_zero, List.set_cons_succ]); try exact rfl
  apply al_stepN
  · exact op_move_tmp (by rfl)
  · rfl
  · (try dsimp only [putT, List.set_cons_zero, List.set_cons_succ]); try exact rfl
  refine al_cons _ (op_callF Try.func84 (by rfl) (by rfl) (.tmp (by rfl) (.tmp (by rfl) .nil)) (index_ok Hs xs x hl)) rfl ?_
  rintro v2 H2 ⟨rfl, r, rfl, hr⟩
  apply al_normT
  · (try dsimp only [putT, List.set_cons_zero, List.set_cons_succ]); try exact rfl
  apply al_stepN
  · exact op_geI (by rfl) (by rfl)
  · rfl
  · (try dsimp only [putT, List.set_cons_zero, List.set_cons_succ]); try exact rfl
  apply al_stepN
  · exact op_assign_tmp (by rfl)
  · rfl
  · (try dsimp only [putT, List.set_cons_zero, List.set_cons_succ]); try exact rfl
  apply al_end
  · (try dsimp only [putT, List.set_cons_zero, List.set_cons_succ]); try exact rfl
  refine then_normal ?_
  refine aw_ret ?_
  refine retPost1 rfl rfl ?_
  exact ⟨by (rw [← hr]) <;> rfl, rfl⟩
/- A collection's key. -/
set_option maxRecDepth 100000 in
theorem ckey_ok (Hs : HS) (name : List UInt8) (z : DV) (hb : name.length ≤ 1000000) : ACalls Try.prog 24 [.d (.agg [S name, z])] Hs (Ret (.d (S (keyL [[99], name]))) Hs) := by
  refine acalls_of_aw Try.func24 rfl ?_
  refine aw_start (T' := [.d (.agg [S name, z]), .un, .un, .un, .un, .un, .un]) rfl ?_
  refine aw_seq ?_
  refine aw_region ?_
  apply al_stepN
  · exact op_box_elt (by rfl) (by rfl)
  · rfl
  · (try dsimp only [putT, List.set_cons_zero, List.set_cons_succ]); try exact rfl
  apply al_stepN
  · exact op_assign_const (by rfl)
  · rfl
  · (try dsimp only [putT, List.set_cons_zero, List.set_cons_succ]); try exact rfl
  apply al_end
  · (try dsimp only [putT, List.set_cons_zero, List.set_cons_succ]); try exact rfl
  refine then_normal ?_
  refine aw_seq ?_
  refine aw_region ?_
  apply al_stepN
  · first | exact op_fieldAddr_ptr Try.underlying25 rfl Sz9 (by rfl) (by rfl) | exact op_fieldAddr_elt Try.underlying25 rfl Sz9 (by rfl) (by rfl) (by rfl)
  · rfl
  · (try dsimp only [putT, List.set_cons_zero, List.set_cons_succ]); try exact rfl
  apply al_stepN
  · first | exact op_load_elt Try.underlying9 (by rfl) (by rfl) (by rfl) | exact op_load_ptr Try.underlying9 (by rfl) (by rfl) (by rfl) (by rfl)
  · rfl
  · (try dsimp only [putT, List.set_cons_zero, List.set_cons_succ]); try exact rfl
  apply al_stepN
  · exact op_lit Try.underlying46 ZS9 (.cons (by rfl) (.cons (by rfl) (.nil _))) (by rfl) (by simp [BY, S, I, TF, DV.cells]) (by simp [flat, BY, S, I, TF, DV.cells, DV.one]) (by decide)
  · rfl
  · (try dsimp only [putT, List.set_cons_zero, List.set_cons_succ]); try exact rfl
  apply al_stepN
  · exact op_callF Try.func31 (by rfl) (by rfl) (.tmp (by rfl) .nil) (key_ok _ _ [[99], name] (LL.own _ _ _) (by simp; omega))
  · rfl
  · (try dsimp only [putT, List.set_cons_zero, List.set_cons_succ]); try exact rfl
  apply al_stepN
  · exact op_assign_tmp (by rfl)
  · rfl
  · (try dsimp only [putT, List.set_cons_zero, List.set_cons_succ]); try exact rfl
  apply al_end
  · (try dsimp only [putT, List.set_cons_zero, List.set_cons_succ]); try exact rfl
  refine then_normal ?_
  refine aw_ret ?_
  refine retPost1 rfl rfl ?_
  exact ⟨rfl, rfl⟩
/- Is a collection right? -/
set_option maxRecDepth 100000 in
theorem cright_ok (Hs : HS) (name : List UInt8) (xs : List Ix) : ACalls Try.prog 17 [.d (.agg [S name, .lst 3 (xs.map ixD)])] Hs (Ret (.d (TF (rightC name xs))) Hs) := by
  refine ACalls.tidy1 ?_
  refine acalls_of_aw Try.func17 rfl ?_
  refine aw_start (T' := [.d (.agg [S name, .lst 3 (xs.map ixD)]), .un, .un, .un, .un, .un, .un, .un, .un, .un, .un, .un, .un, .un, .un, .un, .un, .un, .un, .un, .un, .un, .un, .un, .un, .un, .un, .un, .un, .un, .un, .un, .un, .un, .un, .un, .un, .un, .un, .un, .un, .un, .un]) rfl ?_
  refine aw_seq ?_
  refine aw_region ?_
  apply al_stepN
  · exact op_box_elt (by rfl) (by rfl)
  · rfl
  · (try dsimp only [putT, List.set_cons_zero, List.set_cons_succ]); try exact rfl
  apply al_stepN
  · exact op_assign_const (by rfl)
  · rfl
  · (try dsimp only [putT, List.set_cons_zero, List.set_cons_succ]); try exact rfl
  apply al_end
  · (try dsimp only [putT, List.set_cons_zero, List.set_cons_succ]); try exact rfl
  refine then_normal ?_
  refine aw_seq ?_
  refine aw_seq ?_
  refine aw_region ?_
  apply al_stepN
  · first | exact op_fieldAddr_ptr Try.underlying25 rfl Sz9 (by rfl) (by rfl) | exact op_fieldAddr_elt Try.underlying25 rfl Sz9 (by rfl) (by rfl) (by rfl)
  · rfl
  · (try dsimp only [putT, List.set_cons_zero, List.set_cons_succ]); try exact rfl
  apply al_stepN
  · first | exact op_load_elt Try.underlying9 (by rfl) (by rfl) (by rfl) | exact op_load_ptr Try.underlying9 (by rfl) (by rfl) (by exact setB_at push_at) (by rfl)
  · rfl
  · (try dsimp only [putT, List.set_cons_zero, List.set_cons_succ]); try exact rfl
  apply al_stepN
  · exact op_callF Try.func60 (by rfl) (by rfl) (.tmp (by rfl) .nil) (name_ok _ _)
  · rfl
  · (try dsimp only [putT, List.set_cons_zero, List.set_cons_succ]); try exact rfl
  apply al_stepN
  · exact op_not (by rfl)
  · rfl
  · (try dsimp only [putT, List.set_cons_zero, List.set_cons_succ]); try exact rfl
  apply al_stepN
  · exact op_move_tmp (by rfl)
  · rfl
  · (try dsimp only [putT, List.set_cons_zero, List.set_cons_succ]); try exact rfl
  refine al_split 9 rfl (fun hg1 => ?_) (fun hg1 => ?_)
  · skip
    (try simp only [decide_eq_true_eq, decide_eq_false_iff_not, beq_iff_eq, beq_eq_false_iff_ne, Bool.not_eq_true', Bool.not_eq_false', bne_iff_ne, ne_eq, Decidable.not_not, bne_eq_false_iff_eq, List.length_map] at hg1)
    have hn0 : nameB name = false := by simpa using hg1
    apply al_normT
    · (try dsimp only [putT, List.set_cons_zero, List.set_cons_succ]); try exact rfl
    refine al_unwanted rfl rfl rfl rfl ?_
    apply al_normT
    · (try dsimp only [putT, List.set_cons_zero, List.set_cons_succ]); try exact rfl
    refine al_unwanted rfl rfl rfl rfl ?_
    apply al_normT
    · (try dsimp only [putT, List.set_cons_zero, List.set_cons_succ]); try exact rfl
    refine al_unwanted rfl rfl rfl rfl ?_
    apply al_normT
    · (try dsimp only [putT, List.set_cons_zero, List.set_cons_succ]); try exact rfl
    refine al_unwanted rfl rfl rfl rfl ?_
    apply al_normT
    · (try dsimp only [putT, List.set_cons_zero, List.set_cons_succ]); try exact rfl
    apply al_stepN
    · exact op_pick_tt (by rfl) (val_const (by rfl))
    · rfl
    · (try dsimp only [putT, List.set_cons_zero, List.set_cons_succ]); try exact rfl
    apply al_end
    · (try dsimp only [putT, List.set_cons_zero, List.set_cons_succ]); try exact rfl
    refine then_normal ?_
    refine aw_cond rfl (fun _ => ?_) (fun h => by cases h)
    refine aw_seq ?_
    refine aw_region ?_
    apply al_stepN
    · exact op_assign_const (by rfl)
    · rfl
    · (try dsimp only [putT, List.set_cons_zero, List.set_cons_succ]); try exact rfl
    apply al_end
    · (try dsimp only [putT, List.set_cons_zero, List.set_cons_succ]); try exact rfl
    refine then_normal ?_
    refine aw_ret ?_
    refine then_ret ?_
    refine retPost1 rfl rfl ?_
    exact ⟨by simp [rightC_eq, hn0, TF], Ext.refl _⟩
  · skip
    (try simp only [decide_eq_true_eq, decide_eq_false_iff_not, beq_iff_eq, beq_eq_false_iff_ne, Bool.not_eq_true', Bool.not_eq_false', bne_iff_ne, ne_eq, Decidable.not_not, bne_eq_false_iff_eq, List.length_map] at hg1)
    have hn0 : nameB name = true := by simpa using hg1
    apply al_normT
    · (try dsimp only [putT, List.set_cons_zero, List.set_cons_succ]); try exact rfl
    apply al_wantedN
    · rfl
    · rfl
    · rfl
    · first | exact op_fieldAddr_ptr Try.underlying25 rfl Sz23 (by rfl) (by rfl) | exact op_fieldAddr_elt Try.underlying25 rfl Sz23 (by rfl) (by rfl) (by rfl)
    · (try dsimp only [putT, List.set_cons_zero, List.set_cons_succ]); try exact rfl
    apply al_wantedN
    · rfl
    · rfl
    · rfl
    · first | exact op_load_elt Try.underlying23 (by rfl) (by rfl) (by rfl) | exact op_load_ptr Try.underlying23 (by rfl) (by rfl) (by exact setB_at push_at) (by rfl)
    · (try dsimp only [putT, List.set_cons_zero, List.set_cons_succ]); try exact rfl
    apply al_wantedN
    · rfl
    · rfl
    · rfl
    · exact op_lenL Try.underlying23 (by first | exact LL.d _ _ | exact LL.own _ _ _ | exact LL.nil _ | assumption)
    · (try dsimp only [putT, List.set_cons_zero, List.set_cons_succ]); try exact rfl
    apply al_wantedN
    · rfl
    · rfl
    · rfl
    · exact op_gtI (by rfl) (by rfl)
    · (try dsimp only [putT, List.set_cons_zero, List.set_cons_succ]); try exact rfl
    apply al_stepN
    · exact op_pick_ff (by rfl) (val_tmp (by rfl))
    · rfl
    · (try dsimp only [putT, List.set_cons_zero, List.set_cons_succ]); try exact rfl
    apply al_end
    · (try dsimp only [putT, List.set_cons_zero, List.set_cons_succ]); try exact rfl
    refine then_normal ?_
    refine aw_cond rfl (fun hc3 => ?_) (fun hc3 => ?_)
    · skip
      (try simp only [decide_eq_true_eq, decide_eq_false_iff_not, beq_iff_eq, beq_eq_false_iff_ne, Bool.not_eq_true', Bool.not_eq_false', bne_iff_ne, ne_eq, Decidable.not_not, bne_eq_false_iff_eq, List.length_map] at hc3)
      have h8 : 8 < (xs.length : Int) := by simpa using hc3
      refine aw_seq ?_
      refine aw_region ?_
      apply al_stepN
      · exact op_assign_const (by rfl)
      · rfl
      · (try dsimp only [putT, List.set_cons_zero, List.set_cons_succ]); try exact rfl
      apply al_end
      · (try dsimp only [putT, List.set_cons_zero, List.set_cons_succ]); try exact rfl
      refine then_normal ?_
      refine aw_ret ?_
      refine then_ret ?_
      refine retPost1 rfl rfl ?_
      exact ⟨by simp [rightC_eq, show ¬ xs.length ≤ 8 by omega, TF], Ext.refl _⟩
    · skip
      (try simp only [decide_eq_true_eq, decide_eq_false_iff_not, beq_iff_eq, beq_eq_false_iff_ne, Bool.not_eq_true', Bool.not_eq_false', bne_iff_ne, ne_eq, Decidable.not_not, bne_eq_false_iff_eq, List.length_map] at hc3)
      have h8 : ¬ 8 < (xs.length : Int) := by simpa using hc3
      refine aw_skip ?_
      refine then_normal ?_
      refine aw_seq ?_
      refine aw_seq ?_
      refine aw_region ?_
      apply al_stepN
      · first | exact op_fieldAddr_ptr Try.underlying25 rfl Sz23 (by rfl) (by rfl) | exact op_fieldAddr_elt Try.underlying25 rfl Sz23 (by rfl) (by rfl) (by rfl)
      · rfl
      · (try dsimp only [putT, List.set_cons_zero, List.set_cons_succ]); try exact rfl
      apply al_stepN
      · first | exact op_load_elt Try.underlying23 (by rfl) (by rfl) (by rfl) | exact op_load_ptr Try.underlying23 (by rfl) (by rfl) (by exact setB_at push_at) (by rfl)
      · rfl
      · (try dsimp only [putT, List.set_cons_zero, List.set_cons_succ]); try exact rfl
      apply al_stepN
      · exact op_lenL Try.underlying23 (by first | exact LL.d _ _ | exact LL.own _ _ _ | exact LL.nil _ | assumption)
      · rfl
      · (try dsimp only [putT, List.set_cons_zero, List.set_cons_succ]); try exact rfl
      apply al_stepN
      · exact op_move_const (by rfl)
      · rfl
      · (try dsimp only [putT, List.set_cons_zero, List.set_cons_succ]); try exact rfl
      apply al_end
      · (try dsimp only [putT, List.set_cons_zero, List.set_cons_succ]); try exact rfl
      refine then_normal ?_
      refine aw_block ?_
      apply aw_loopF (fun n T H => ∃ (k : Nat), T = [.un, .elt [S name, .lst 3 (xs.map ixD)], .un, .un, .un, .un, .un, .un, .un, .un, .un, .un, .un, .un, .un, .un, .d (.lst 3 (xs.map ixD)), .d (I (xs.map ixD).length), .d (I k), .un, .un, .un, .un, .un, .un, .un, .un, .un, .un, .un, .un, .un, .un, .un, .un, .un, .un, .un, .un, .un, .un, .un, .un] ∧ k ≤ xs.length ∧ n = xs.length - k ∧ (List.range k).all (rightAt xs) = true ∧ Ext Hs H) (xs.length) [false, true, false, false, false, false, false, false, false, false, false, false, false, false, false, false, true, true, true, false, false, false, false, false, false, false, false, false, false, false, false, false, false, false, false, false, false, false, false, false, false, false, false]
      · (try dsimp only [maskT]); try exact rfl
      · rfl
      · exact ⟨0, rfl, by omega, rfl, rfl, Ext.refl Hs⟩
      rintro n T H ⟨k, rfl, hk, rfl, hall, hx⟩
      refine aw_seq ?_
      refine aw_region ?_
      apply al_stepN
      · exact op_ltI (by rfl) (by rfl)
      · rfl
      · (try dsimp only [putT, List.set_cons_zero, List.set_cons_succ]); try exact rfl
      apply al_end
      · (try dsimp only [putT, List.set_cons_zero, List.set_cons_succ]); try exact rfl
      refine then_normal ?_
      refine aw_seq ?_
      refine aw_cond rfl (fun hc4 => ?_) (fun hc4 => ?_)
      · skip
        (try simp only [decide_eq_true_eq, decide_eq_false_iff_not, beq_iff_eq, beq_eq_false_iff_ne, Bool.not_eq_true', Bool.not_eq_false', bne_iff_ne, ne_eq, Decidable.not_not, bne_eq_false_iff_eq, List.length_map] at hc4)
        (try simp only [List.length_map] at hc4)
        have hlt : k < xs.length := by omega
        obtain ⟨y, hy⟩ : ∃ y, xs[k]? = some y := ⟨_, List.getElem?_eq_getElem hlt⟩
        refine aw_skip ?_
        refine then_normal ?_
        refine aw_seq ?_
        refine aw_block ?_
        refine aw_seq ?_
        refine aw_region ?_
        apply al_stepN
        · exact op_move_tmp (by rfl)
        · rfl
        · (try dsimp only [putT, List.set_cons_zero, List.set_cons_succ]); try exact rfl
        apply al_stepN
        · exact op_indexAddr Try.underlying23 Sz32 (LL.d _ _) (by rfl) (by omega) (show (xs.map ixD)[((k : Nat) : Int).toNat]? = some (ixD y) by rw [List.getElem?_map, show ((k : Nat) : Int).toNat = k from rfl, hy]; rfl) (by rfl)
        · rfl
        · (try dsimp only [putT, List.set_cons_zero, List.set_cons_succ]); try exact rfl
        apply al_stepN
        · exact op_load_elts (ds := ixC y) Try.underlying32 (by rfl) Sz32 (by rfl) (Nat.le_of_ble_eq_true rfl) (by rfl)
        · rfl
        · (try dsimp only [putT, List.set_cons_zero, List.set_cons_succ]); try exact rfl
        apply al_stepN
        · exact op_alloc (Zr32) (by rfl)
        · rfl
        · (try dsimp only [putT, List.set_cons_zero, List.set_cons_succ]); try exact rfl
        apply al_stepN
        · exact op_assign_tmp (by rfl)
        · rfl
        · (try dsimp only [putT, List.set_cons_zero, List.set_cons_succ]); try exact rfl
        apply al_stepN
        · exact op_storeB (vs := [.d (S y.name), .d (S y.field), .d (TF y.uniq)]) (b' := ⟨32, [.d (S y.name), .d (S y.field), .d (TF y.uniq)], false⟩) (H' := _) Sz32 (by rfl) push_at (by intro h; cases h) (by rfl) (by rfl) (Nat.le_of_ble_eq_true rfl) (by simp [AV.one, DV.one, TF, S, I, BY]) (by rfl) (by rfl) rfl
        · rfl
        · (try dsimp only [putT, List.set_cons_zero, List.set_cons_succ]); try exact rfl
        apply al_end
        · (try dsimp only [putT, List.set_cons_zero, List.set_cons_succ]); try exact rfl
        refine then_normal ?_
        refine aw_seq ?_
        refine aw_draw [0, 1, 0, 0, 0, 0, 1, 0, 0, 0, 0, 0, 1, 0, 0, 1, 0, 0, 0] mixed (by kernel_rfl) ?_
        apply drun0
        · intro H; first | exact op_fieldAddr_ptr Try.underlying32 rfl Sz9 (by rfl) (by rfl) | exact op_fieldAddr_elt Try.underlying32 rfl Sz9 (by rfl) (by rfl) (by rfl)
        · rfl
        apply drun_normT
        · (try dsimp only [putT, List.set_cons_zero, List.set_cons_succ]); try exact rfl
        apply drun1
        · first | exact op_load_elt Try.underlying9 (by rfl) (by rfl) (by rfl) | exact op_load_ptr Try.underlying9 (by rfl) (by rfl) (by exact setB_at push_at) (by rfl)
        · rfl
        apply drun_normT
        · (try dsimp only [putT, List.set_cons_zero, List.set_cons_succ]); try exact rfl
        apply drun0
        · intro H; exact op_callF Try.func60 (by rfl) (by rfl) (.tmp (by rfl) .nil) (name_ok _ _)
        · rfl
        apply drun_normT
        · (try dsimp only [putT, List.set_cons_zero, List.set_cons_succ]); try exact rfl
        apply drun0
        · intro H; exact op_not (by rfl)
        · rfl
        apply drun_normT
        · (try dsimp only [putT, List.set_cons_zero, List.set_cons_succ]); try exact rfl
        apply drun0
        · intro H; exact op_move_tmp (by rfl)
        · rfl
        apply drun_normT
        · (try dsimp only [putT, List.set_cons_zero, List.set_cons_succ]); try exact rfl
        refine drun_split 27 rfl (fun hg5 => ?_) (fun hg5 => ?_)
        · skip
          (try simp only [decide_eq_true_eq, decide_eq_false_iff_not, beq_iff_eq, beq_eq_false_iff_ne, Bool.not_eq_true', Bool.not_eq_false', bne_iff_ne, ne_eq, Decidable.not_not, bne_eq_false_iff_eq, List.length_map] at hg5)
          have hn1 : nameB y.name = false := by simpa using hg5
          apply drun_normT
          · (try dsimp only [putT, List.set_cons_zero, List.set_cons_succ]); try exact rfl
          refine drunU rfl rfl rfl rfl ?_
          apply drun_normT
          · (try dsimp only [putT, List.set_cons_zero, List.set_cons_succ]); try exact rfl
          refine drunU rfl rfl rfl rfl ?_
          apply drun_normT
          · (try dsimp only [putT, List.set_cons_zero, List.set_cons_succ]); try exact rfl
          refine drunU rfl rfl rfl rfl ?_
          apply drun_normT
          · (try dsimp only [putT, List.set_cons_zero, List.set_cons_succ]); try exact rfl
          refine drunU rfl rfl rfl rfl ?_
          apply drun_normT
          · (try dsimp only [putT, List.set_cons_zero, List.set_cons_succ]); try exact rfl
          apply drun0
          · intro H; exact op_pick_tt (by rfl) (val_const (by rfl))
          · rfl
          apply drun_normT
          · (try dsimp only [putT, List.set_cons_zero, List.set_cons_succ]); try exact rfl
          apply drun0
          · intro H; exact op_move_tmp (by rfl)
          · rfl
          apply drun_normT
          · (try dsimp only [putT, List.set_cons_zero, List.set_cons_succ]); try exact rfl
          refine drunU rfl rfl rfl rfl ?_
          apply drun_normT
          · (try dsimp only [putT, List.set_cons_zero, List.set_cons_succ]); try exact rfl
          refine drunU rfl rfl rfl rfl ?_
          apply drun_normT
          · (try dsimp only [putT, List.set_cons_zero, List.set_cons_succ]); try exact rfl
          refine drunU rfl rfl rfl rfl ?_
          apply drun_normT
          · (try dsimp only [putT, List.set_cons_zero, List.set_cons_succ]); try exact rfl
          refine drunU rfl rfl rfl rfl ?_
          apply drun_normT
          · (try dsimp only [putT, List.set_cons_zero, List.set_cons_succ]); try exact rfl
          refine drunU rfl rfl rfl rfl ?_
          apply drun_normT
          · (try dsimp only [putT, List.set_cons_zero, List.set_cons_succ]); try exact rfl
          refine drunU rfl rfl rfl rfl ?_
          apply drun_normT
          · (try dsimp only [putT, List.set_cons_zero, List.set_cons_succ]); try exact rfl
          refine drunU rfl rfl rfl rfl ?_
          apply drun_normT
          · (try dsimp only [putT, List.set_cons_zero, List.set_cons_succ]); try exact rfl
          apply drun0
          · intro H; exact op_pick_tt (by rfl) (val_const (by rfl))
          · rfl
          apply drun_normT
          · (try dsimp only [putT, List.set_cons_zero, List.set_cons_succ]); try exact rfl
          apply drun_end
          · (try dsimp only [putT, List.set_cons_zero, List.set_cons_succ]); try exact rfl
          refine then_normal ?_
          refine aw_cond rfl (fun _ => ?_) (fun h => by cases h)
          refine aw_seq ?_
          refine aw_region ?_
          apply al_stepN
          · exact op_assign_const (by rfl)
          · rfl
          · (try dsimp only [putT, List.set_cons_zero, List.set_cons_succ]); try exact rfl
          apply al_end
          · (try dsimp only [putT, List.set_cons_zero, List.set_cons_succ]); try exact rfl
          refine then_normal ?_
          refine aw_ret ?_
          refine inBlock_ret (then_ret (again_ret (inBlock_ret (then_ret ?_))))
          refine retPost1 rfl rfl ?_
          exact ⟨by rw [right_bad hlt (by rw [rightAt_some hy]; simp [rightIx, hn1])]; rfl, (hx.push _ _).setB (nb_le hx)⟩
        · skip
          (try simp only [decide_eq_true_eq, decide_eq_false_iff_not, beq_iff_eq, beq_eq_false_iff_ne, Bool.not_eq_true', Bool.not_eq_false', bne_iff_ne, ne_eq, Decidable.not_not, bne_eq_false_iff_eq, List.length_map] at hg5)
          have hn1 : nameB y.name = true := by simpa using hg5
          apply drun_normT
          · (try dsimp only [putT, List.set_cons_zero, List.set_cons_succ]); try exact rfl
          apply drun0w
          · rfl
          · rfl
          · rfl
          · intro H; first | exact op_fieldAddr_ptr Try.underlying32 rfl Sz9 (by rfl) (by rfl) | exact op_fieldAddr_elt Try.underlying32 rfl Sz9 (by rfl) (by rfl) (by rfl)
          apply drun_normT
          · (try dsimp only [putT, List.set_cons_zero, List.set_cons_succ]); try exact rfl
          apply drun1w
          · rfl
          · rfl
          · rfl
          · first | exact op_load_elt Try.underlying9 (by rfl) (by rfl) (by rfl) | exact op_load_ptr Try.underlying9 (by rfl) (by rfl) (by exact setB_at push_at) (by rfl)
          apply drun_normT
          · (try dsimp only [putT, List.set_cons_zero, List.set_cons_succ]); try exact rfl
          apply drun0w
          · rfl
          · rfl
          · rfl
          · intro H; exact op_lenS Try.underlying9 (by rfl)
          apply drun_normT
          · (try dsimp only [putT, List.set_cons_zero, List.set_cons_succ]); try exact rfl
          apply drun0w
          · rfl
          · rfl
          · rfl
          · intro H; exact op_gtI (by rfl) (by rfl)
          apply drun_normT
          · (try dsimp only [putT, List.set_cons_zero, List.set_cons_succ]); try exact rfl
          apply drun0
          · intro H; exact op_pick_ff (by rfl) (val_tmp (by rfl))
          · rfl
          apply drun_normT
          · (try dsimp only [putT, List.set_cons_zero, List.set_cons_succ]); try exact rfl
          apply drun0
          · intro H; exact op_move_tmp (by rfl)
          · rfl
          apply drun_normT
          · (try dsimp only [putT, List.set_cons_zero, List.set_cons_succ]); try exact rfl
          refine drun_split 33 rfl (fun hg7 => ?_) (fun hg7 => ?_)
          · skip
            (try simp only [decide_eq_true_eq, decide_eq_false_iff_not, beq_iff_eq, beq_eq_false_iff_ne, Bool.not_eq_true', Bool.not_eq_false', bne_iff_ne, ne_eq, Decidable.not_not, bne_eq_false_iff_eq, List.length_map] at hg7)
            have hf40 : ¬ y.field.length ≤ 40 := by have h : 40 < (y.field.length : Int) := hg7; omega
            apply drun_normT
            · (try dsimp only [putT, List.set_cons_zero, List.set_cons_succ]); try exact rfl
            refine drunU rfl rfl rfl rfl ?_
            apply drun_normT
            · (try dsimp only [putT, List.set_cons_zero, List.set_cons_succ]); try exact rfl
            refine drunU rfl rfl rfl rfl ?_
            apply drun_normT
            · (try dsimp only [putT, List.set_cons_zero, List.set_cons_succ]); try exact rfl
            refine drunU rfl rfl rfl rfl ?_
            apply drun_normT
            · (try dsimp only [putT, List.set_cons_zero, List.set_cons_succ]); try exact rfl
            refine drunU rfl rfl rfl rfl ?_
            apply drun_normT
            · (try dsimp only [putT, List.set_cons_zero, List.set_cons_succ]); try exact rfl
            refine drunU rfl rfl rfl rfl ?_
            apply drun_normT
            · (try dsimp only [putT, List.set_cons_zero, List.set_cons_succ]); try exact rfl
            refine drunU rfl rfl rfl rfl ?_
            apply drun_normT
            · (try dsimp only [putT, List.set_cons_zero, List.set_cons_succ]); try exact rfl
            refine drunU rfl rfl rfl rfl ?_
            apply drun_normT
            · (try dsimp only [putT, List.set_cons_zero, List.set_cons_succ]); try exact rfl
            apply drun0
            · intro H; exact op_pick_tt (by rfl) (val_const (by rfl))
            · rfl
            apply drun_normT
            · (try dsimp only [putT, List.set_cons_zero, List.set_cons_succ]); try exact rfl
            apply drun_end
            · (try dsimp only [putT, List.set_cons_zero, List.set_cons_succ]); try exact rfl
            refine then_normal ?_
            refine aw_cond rfl (fun _ => ?_) (fun h => by cases h)
            refine aw_seq ?_
            refine aw_region ?_
            apply al_stepN
            · exact op_assign_const (by rfl)
            · rfl
            · (try dsimp only [putT, List.set_cons_zero, List.set_cons_succ]); try exact rfl
            apply al_end
            · (try dsimp only [putT, List.set_cons_zero, List.set_cons_succ]); try exact rfl
            refine then_normal ?_
            refine aw_ret ?_
            refine inBlock_ret (then_ret (again_ret (inBlock_ret (then_ret ?_))))
            refine retPost1 rfl rfl ?_
            exact ⟨by rw [right_bad hlt (by rw [rightAt_some hy]; simp [rightIx, hf40])]; rfl, (hx.push _ _).setB (nb_le hx)⟩
          · skip
            (try simp only [decide_eq_true_eq, decide_eq_false_iff_not, beq_iff_eq, beq_eq_false_iff_ne, Bool.not_eq_true', Bool.not_eq_false', bne_iff_ne, ne_eq, Decidable.not_not, bne_eq_false_iff_eq, List.length_map] at hg7)
            have hf40 : y.field.length ≤ 40 := by have h : ¬ 40 < (y.field.length : Int) := hg7; omega
            apply drun_normT
            · (try dsimp only [putT, List.set_cons_zero, List.set_cons_succ]); try exact rfl
            apply drun0w
            · rfl
            · rfl
            · rfl
            · intro H; first | exact op_fieldAddr_ptr Try.underlying25 rfl Sz23 (by rfl) (by rfl) | exact op_fieldAddr_elt Try.underlying25 rfl Sz23 (by rfl) (by rfl) (by rfl)
            apply drun_normT
            · (try dsimp only [putT, List.set_cons_zero, List.set_cons_succ]); try exact rfl
            apply drun1w
            · rfl
            · rfl
            · rfl
            · first | exact op_load_elt Try.underlying23 (by rfl) (by rfl) (by rfl) | exact op_load_ptr Try.underlying23 (by rfl) (by rfl) (by exact setB_at push_at) (by rfl)
            apply drun_normT
            · (try dsimp only [putT, List.set_cons_zero, List.set_cons_succ]); try exact rfl
            apply drun0w
            · rfl
            · rfl
            · rfl
            · intro H; exact op_move_tmp (by rfl)
            apply drun_normT
            · (try dsimp only [putT, List.set_cons_zero, List.set_cons_succ]); try exact rfl
            apply drun0w
            · rfl
            · rfl
            · rfl
            · intro H; exact op_sliceL0 ((xs.take k).map ixD) Try.underlying23 Sz32 (LL.d _ _) (by rfl) (by omega) (by simp; omega) (by simp)
            apply drun_normT
            · (try dsimp only [putT, List.set_cons_zero, List.set_cons_succ]); try exact rfl
            apply drun1w
            · rfl
            · rfl
            · rfl
            · exact op_load_ptrsD (ixC y) Try.underlying32 (by rfl) Sz32 (by rfl) (setB_at push_at) (Nat.le_of_ble_eq_true rfl) (by rfl) (by simp [ixC, DV.one, S, TF])
            apply drun_normT
            · (try dsimp only [putT, List.set_cons_zero, List.set_cons_succ]); try exact rfl
            apply drun0w
            · rfl
            · rfl
            · rfl
            · intro H; exact op_makeFn (.tmp (by rfl) .nil) .nil
            apply drun_normT
            · (try dsimp only [putT, List.set_cons_zero, List.set_cons_succ]); try exact rfl
            apply drun0w
            · rfl
            · rfl
            · rfl
            · intro H; exact op_callF Try.func61 (by rfl) (by rfl) (.tmp (by rfl) (.tmp (by rfl) .nil)) (contains_ok _ (xs.take k) y (by simp; omega))
            apply drun_normT
            · (try dsimp only [putT, List.set_cons_zero, List.set_cons_succ]); try exact rfl
            apply drun0
            · intro H; exact op_pick_ff (by rfl) (val_tmp (by rfl))
            · rfl
            apply drun_normT
            · (try dsimp only [putT, List.set_cons_zero, List.set_cons_succ]); try exact rfl
            apply drun_end
            · (try dsimp only [putT, List.set_cons_zero, List.set_cons_succ]); try exact rfl
            refine then_normal ?_
            refine aw_cond rfl (fun hc9 => ?_) (fun hc9 => ?_)
            · skip
              (try simp only [decide_eq_true_eq, decide_eq_false_iff_not, beq_iff_eq, beq_eq_false_iff_ne, Bool.not_eq_true', Bool.not_eq_false', bne_iff_ne, ne_eq, Decidable.not_not, bne_eq_false_iff_eq, List.length_map] at hc9)
              have hcon := hc9
              refine aw_seq ?_
              refine aw_region ?_
              apply al_stepN
              · exact op_assign_const (by rfl)
              · rfl
              · (try dsimp only [putT, List.set_cons_zero, List.set_cons_succ]); try exact rfl
              apply al_end
              · (try dsimp only [putT, List.set_cons_zero, List.set_cons_succ]); try exact rfl
              refine then_normal ?_
              refine aw_ret ?_
              refine inBlock_ret (then_ret (again_ret (inBlock_ret (then_ret ?_))))
              refine retPost1 rfl rfl ?_
              exact ⟨by rw [right_bad hlt (by rw [rightAt_some hy]; simp only [rightIx, hcon]; simp)]; rfl, (hx.push _ _).setB (nb_le hx)⟩
            · skip
              (try simp only [decide_eq_true_eq, decide_eq_false_iff_not, beq_iff_eq, beq_eq_false_iff_ne, Bool.not_eq_true', Bool.not_eq_false', bne_iff_ne, ne_eq, Decidable.not_not, bne_eq_false_iff_eq, List.length_map] at hc9)
              have hcon := hc9
              refine aw_skip ?_
              refine inBlock_normal (then_normal ?_)
              refine aw_region ?_
              apply al_stepN
              · first | exact op_add (by rfl) (by rfl) (wrap_i64 ⟨by omega, by omega⟩) | exact op_add (by rfl) (by rfl) (by rfl)
              · rfl
              · (try dsimp only [putT, List.set_cons_zero, List.set_cons_succ]); try exact rfl
              apply al_stepN
              · exact op_move_tmp (by rfl)
              · rfl
              · (try dsimp only [putT, List.set_cons_zero, List.set_cons_succ]); try exact rfl
              apply al_end
              · (try dsimp only [putT, List.set_cons_zero, List.set_cons_succ]); try exact rfl
              apply again_to (xs.length - (k + 1)) [false, true, false, false, false, false, false, false, false, false, false, false, false, false, false, false, true, true, true, false, false, false, false, false, false, false, false, false, false, false, false, false, false, false, false, false, false, false, false, false, false, false, false]
              · (try dsimp only [maskT]); try exact rfl
              · rfl
              · omega
              exact ⟨k + 1, rfl, by omega, rfl, right_step hall (by rw [rightAt_some hy]; simp [rightIx, hn1, hf40, hcon]), (hx.push _ _).setB (nb_le hx)⟩
      · skip
        (try simp only [decide_eq_true_eq, decide_eq_false_iff_not, beq_iff_eq, beq_eq_false_iff_ne, Bool.not_eq_true', Bool.not_eq_false', bne_iff_ne, ne_eq, Decidable.not_not, bne_eq_false_iff_eq, List.length_map] at hc4)
        (try simp only [List.length_map] at hc4)
        have hke : k = xs.length := by omega
        subst hke
        refine aw_exit ?_
        refine then_exit (again_exit (inBlock_here (then_normal ?_)))
        refine aw_seq ?_
        refine aw_region ?_
        apply al_stepN
        · exact op_assign_const (by rfl)
        · rfl
        · (try dsimp only [putT, List.set_cons_zero, List.set_cons_succ]); try exact rfl
        apply al_end
        · (try dsimp only [putT, List.set_cons_zero, List.set_cons_succ]); try exact rfl
        refine then_normal ?_
        refine aw_ret ?_
        refine retPost1 rfl rfl ?_
        exact ⟨by rw [rightC_eq, hn0, hall]; simp [show xs.length ≤ 8 by omega, TF], hx⟩
/- A collection as bytes. -/
set_option maxRecDepth 100000 in
theorem cenc_ok (Hs : HS) (name : List UInt8) (xs : List Ix) (hl : xs.length ≤ 1000000) (hb : (encC xs).length ≤ 1000000000) : ACalls Try.prog 18 [.d (.agg [S name, .lst 3 (xs.map ixD)])] Hs (Ret (.d (S (encC xs))) Hs) := by
  refine ACalls.tidy1 ?_
  have hnum := onum_ok Hs none _ [] xs.length (App.nil _) (HS.ok_none _ _) (by omega) (by simp)
  rw [show ((xs.length : Nat) : Int).toNat = xs.length from rfl, List.nil_append] at hnum
  refine acalls_of_aw Try.func18 rfl ?_
  refine aw_start (T' := [.d (.agg [S name, .lst 3 (xs.map ixD)]), .un, .un, .un, .un, .un, .un, .un, .un, .un, .un, .un, .un, .un, .un, .un, .un, .un, .un, .un, .un, .un, .un, .un, .un, .un, .un, .un, .un, .un]) rfl ?_
  refine aw_seq ?_
  refine aw_region ?_
  apply al_stepN
  · exact op_box_elt (by rfl) (by rfl)
  · rfl
  · (try dsimp only [putT, List.set_cons_zero, List.set_cons_succ]); try exact rfl
  apply al_stepN
  · exact op_assign_const (by rfl)
  · rfl
  · (try dsimp only [putT, List.set_cons_zero, List.set_cons_succ]); try exact rfl
  apply al_end
  · (try dsimp only [putT, List.set_cons_zero, List.set_cons_succ]); try exact rfl
  refine then_normal ?_
  refine aw_seq ?_
  refine aw_region ?_
  apply al_stepN
  · first | exact op_fieldAddr_ptr Try.underlying25 rfl Sz23 (by rfl) (by rfl) | exact op_fieldAddr_elt Try.underlying25 rfl Sz23 (by rfl) (by rfl) (by rfl)
  · rfl
  · (try dsimp only [putT, List.set_cons_zero, List.set_cons_succ]); try exact rfl
  apply al_stepN
  · first | exact op_load_elt Try.underlying23 (by rfl) (by rfl) (by rfl) | exact op_load_ptr Try.underlying23 (by rfl) (by rfl) (by exact hPhi) (by rfl)
  · rfl
  · (try dsimp only [putT, List.set_cons_zero, List.set_cons_succ]); try exact rfl
  apply al_stepN
  · exact op_lenL Try.underlying23 (by first | exact LL.d _ _ | exact LL.own _ _ _ | exact LL.nil _ | assumption)
  · rfl
  · (try dsimp only [putT, List.set_cons_zero, List.set_cons_succ]); try exact rfl
  apply al_stepN
  · exact op_callF Try.func63 (by rfl) (by rfl) (.const (by rfl) (.tmp (by rfl) .nil)) ((by have h := hnum; simpa using h))
  · rfl
  · (try dsimp only [putT, List.set_cons_zero, List.set_cons_succ]); try exact rfl
  apply al_stepN
  · exact op_assign_tmp (by rfl)
  · rfl
  · (try dsimp only [putT, List.set_cons_zero, List.set_cons_succ]); try exact rfl
  apply al_end
  · (try dsimp only [putT, List.set_cons_zero, List.set_cons_succ]); try exact rfl
  refine then_normal ?_
  refine aw_seq ?_
  refine aw_seq ?_
  refine aw_region ?_
  apply al_stepN
  · first | exact op_fieldAddr_ptr Try.underlying25 rfl Sz23 (by rfl) (by rfl) | exact op_fieldAddr_elt Try.underlying25 rfl Sz23 (by rfl) (by rfl) (by rfl)
  · rfl
  · (try dsimp only [putT, List.set_cons_zero, List.set_cons_succ]); try exact rfl
  apply al_stepN
  · first | exact op_load_elt Try.underlying23 (by rfl) (by rfl) (by rfl) | exact op_load_ptr Try.underlying23 (by rfl) (by rfl) (by exact hPhi) (by rfl)
  · rfl
  · (try dsimp only [putT, List.set_cons_zero, List.set_cons_succ]); try exact rfl
  apply al_stepN
  · exact op_lenL Try.underlying23 (by first | exact LL.d _ _ | exact LL.own _ _ _ | exact LL.nil _ | assumption)
  · rfl
  · (try dsimp only [putT, List.set_cons_zero, List.set_cons_succ]); try exact rfl
  apply al_stepN
  · exact op_move_const (by rfl)
  · rfl
  · (try dsimp only [putT, List.set_cons_zero, List.set_cons_succ]); try exact rfl
  apply al_end
  · (try dsimp only [putT, List.set_cons_zero, List.set_cons_succ]); try exact rfl
  refine then_normal ?_
  refine aw_block ?_
  apply aw_loopF (fun n T H => ∃ (k : Nat) (v' : AV) (t' : Option Nat), T = [.un, .elt [S name, .lst 3 (xs.map ixD)], .un, v', .un, .un, .un, .un, .un, .un, .un, .d (.lst 3 (xs.map ixD)), .d (I (xs.map ixD).length), .d (I k), .un, .un, .un, .un, .un, .un, .un, .un, .un, .un, .un, .un, .un, .un, .un, .un] ∧ k ≤ xs.length ∧ n = xs.length - k ∧ App v' t' 1 ((encK xs k).map BY) ∧ H.ok t' (encK xs k).length ∧ NewTok Hs t' ∧ Ext Hs H) (xs.length) [false, true, false, true, false, false, false, false, false, false, false, true, true, true, false, false, false, false, false, false, false, false, false, false, false, false, false, false, false, false]
  · (try dsimp only [maskT]); try exact rfl
  · rfl
  · exact ⟨0, _, _, rfl, by omega, rfl, by rw [encK_zero]; exact App.own _ _ _, by rw [encK_zero]; exact okB _ _ _ (HS.ok_none _ 0), ((Ext.refl Hs).upN (n := 0) (NewTok.none Hs) (HS.ok_none _ 0)).2, ((Ext.refl Hs).upN (NewTok.none Hs) (HS.ok_none _ 0)).1⟩
  rintro n T H ⟨k, v', t', rfl, hk, rfl, hv, hok, hnt, hx⟩
  refine aw_seq ?_
  refine aw_region ?_
  apply al_stepN
  · exact op_ltI (by rfl) (by rfl)
  · rfl
  · (try dsimp only [putT, List.set_cons_zero, List.set_cons_succ]); try exact rfl
  apply al_end
  · (try dsimp only [putT, List.set_cons_zero, List.set_cons_succ]); try exact rfl
  refine then_normal ?_
  refine aw_seq ?_
  refine aw_cond rfl (fun hc1 => ?_) (fun hc1 => ?_)
  · skip
    (try simp only [decide_eq_true_eq, decide_eq_false_iff_not, beq_iff_eq, beq_eq_false_iff_ne, Bool.not_eq_true', Bool.not_eq_false', bne_iff_ne, ne_eq, Decidable.not_not, bne_eq_false_iff_eq, List.length_map] at hc1)
    (try simp only [List.length_map] at hc1)
    have hlt : k < xs.length := by omega
    obtain ⟨y, hy⟩ : ∃ y, xs[k]? = some y := ⟨_, List.getElem?_eq_getElem hlt⟩
    have hel := encK_len hy
    have hte := textB_ge y.name
    have hte2 := textB_ge y.field
    simp only [ixB, List.length_append] at hel
    have hok' : ∀ cs b, ((H.push 32 cs).setB H.nb b).ok t' (encK xs k).length := fun _ _ => hok
    refine aw_skip ?_
    refine then_normal ?_
    refine aw_seq ?_
    refine aw_block ?_
    refine aw_seq ?_
    refine aw_region ?_
    apply al_stepN
    · exact op_indexAddr Try.underlying23 Sz32 (LL.d _ _) (by rfl) (by omega) (show (xs.map ixD)[((k : Nat) : Int).toNat]? = some (ixD y) by rw [List.getElem?_map, show ((k : Nat) : Int).toNat = k from rfl, hy]; rfl) (by rfl)
    · rfl
    · (try dsimp only [putT, List.set_cons_zero, List.set_cons_succ]); try exact rfl
    apply al_stepN
    · exact op_load_elts (ds := ixC y) Try.underlying32 (by rfl) Sz32 (by rfl) (Nat.le_of_ble_eq_true rfl) (by rfl)
    · rfl
    · (try dsimp only [putT, List.set_cons_zero, List.set_cons_succ]); try exact rfl
    apply al_stepN
    · exact op_alloc (Zr32) (by rfl)
    · rfl
    · (try dsimp only [putT, List.set_cons_zero, List.set_cons_succ]); try exact rfl
    apply al_stepN
    · exact op_storeB (vs := [.d (S y.name), .d (S y.field), .d (TF y.uniq)]) (b' := ⟨32, [.d (S y.name), .d (S y.field), .d (TF y.uniq)], false⟩) (H' := _) Sz32 (by rfl) push_at (by intro h; cases h) (by rfl) (by rfl) (Nat.le_of_ble_eq_true rfl) (by simp [AV.one, DV.one, TF, S, I, BY]) (by rfl) (by rfl) rfl
    · rfl
    · (try dsimp only [putT, List.set_cons_zero, List.set_cons_succ]); try exact rfl
    apply al_end
    · (try dsimp only [putT, List.set_cons_zero, List.set_cons_succ]); try exact rfl
    refine then_normal ?_
    refine aw_drawX (fun K => K.blks[H.nb]? = some ⟨32, [.d (S y.name), .d (S y.field), .d (TF y.uniq)], false⟩) [0, 0, 0, 2, 0, 0, 2, 0, 0, 2, 0] mixed (by kernel_rfl) (setB_at push_at) (.inr (by kernel_rfl)) ?_
    apply drun0X
    · intro H hPhi; exact op_move_tmp (by rfl)
    · rfl
    apply drun_normT
    · (try dsimp only [putT, List.set_cons_zero, List.set_cons_succ]); try exact rfl
    apply drun0X
    · intro H hPhi; first | exact op_fieldAddr_ptr Try.underlying32 rfl Sz9 (by rfl) (by rfl) | exact op_fieldAddr_elt Try.underlying32 rfl Sz9 (by rfl) (by rfl) (by rfl)
    · rfl
    apply drun_normT
    · (try dsimp only [putT, List.set_cons_zero, List.set_cons_succ]); try exact rfl
    apply drun0X
    · intro H hPhi; first | exact op_load_elt Try.underlying9 (by rfl) (by rfl) (by rfl) | exact op_load_ptr Try.underlying9 (by rfl) (by rfl) (by exact hPhi) (by rfl)
    · rfl
    apply drun_normT
    · (try dsimp only [putT, List.set_cons_zero, List.set_cons_succ]); try exact rfl
    apply drun2X
    · exact op_callF Try.func65 (by rfl) (by rfl) (.tmp (by rfl) (.tmp (by rfl) .nil)) (otext_ok _ t' v' _ y.name hv (hok' _ _) (by omega))
    · rfl
    · refine .inr ?_; first | (rw [HS.up_blks]; exact setB_at push_at) | (rw [HS.up_blks, HS.up_blks]; exact setB_at push_at) | (rw [HS.up_blks, HS.up_blks, HS.up_blks]; exact setB_at push_at)
    apply drun_normT
    · (try dsimp only [putT, List.set_cons_zero, List.set_cons_succ]); try exact rfl
    apply drun0X
    · intro H hPhi; first | exact op_fieldAddr_ptr Try.underlying32 rfl Sz9 (by rfl) (by rfl) | exact op_fieldAddr_elt Try.underlying32 rfl Sz9 (by rfl) (by rfl) (by rfl)
    · rfl
    apply drun_normT
    · (try dsimp only [putT, List.set_cons_zero, List.set_cons_succ]); try exact rfl
    apply drun0X
    · intro H hPhi; first | exact op_load_elt Try.underlying9 (by rfl) (by rfl) (by rfl) | exact op_load_ptr Try.underlying9 (by rfl) (by rfl) (by exact hPhi) (by rfl)
    · rfl
    apply drun_normT
    · (try dsimp only [putT, List.set_cons_zero, List.set_cons_succ]); try exact rfl
    apply drun2X
    · exact op_callF Try.func65 (by rfl) (by rfl) (.tmp (by rfl) (.tmp (by rfl) .nil)) (otext_ok _ _ _ _ y.field (App.own _ _ _) (okB _ _ _ (hok' _ _)) (by simp; omega))
    · rfl
    · refine .inr ?_; first | (rw [HS.up_blks]; exact setB_at push_at) | (rw [HS.up_blks, HS.up_blks]; exact setB_at push_at) | (rw [HS.up_blks, HS.up_blks, HS.up_blks]; exact setB_at push_at)
    apply drun_normT
    · (try dsimp only [putT, List.set_cons_zero, List.set_cons_succ]); try exact rfl
    apply drun0X
    · intro H hPhi; first | exact op_fieldAddr_ptr Try.underlying32 rfl Sz4 (by rfl) (by rfl) | exact op_fieldAddr_elt Try.underlying32 rfl Sz4 (by rfl) (by rfl) (by rfl)
    · rfl
    apply drun_normT
    · (try dsimp only [putT, List.set_cons_zero, List.set_cons_succ]); try exact rfl
    apply drun0X
    · intro H hPhi; first | exact op_load_elt Try.underlying4 (by rfl) (by rfl) (by rfl) | exact op_load_ptr Try.underlying4 (by rfl) (by rfl) (by exact hPhi) (by rfl)
    · rfl
    apply drun_normT
    · (try dsimp only [putT, List.set_cons_zero, List.set_cons_succ]); try exact rfl
    apply drun2X
    · exact op_callF Try.func64 (by rfl) (by rfl) (.tmp (by rfl) (.tmp (by rfl) .nil)) (oflag_ok _ _ _ _ y.uniq (App.own _ _ _) (okB _ _ _ (okB _ _ _ (hok' _ _))) (by simp; omega))
    · rfl
    · refine .inr ?_; first | (rw [HS.up_blks]; exact setB_at push_at) | (rw [HS.up_blks, HS.up_blks]; exact setB_at push_at) | (rw [HS.up_blks, HS.up_blks, HS.up_blks]; exact setB_at push_at)
    apply drun_normT
    · (try dsimp only [putT, List.set_cons_zero, List.set_cons_succ]); try exact rfl
    apply drun0X
    · intro H hPhi; exact op_assign_tmp (by rfl)
    · rfl
    apply drun_normT
    · (try dsimp only [putT, List.set_cons_zero, List.set_cons_succ]); try exact rfl
    apply drun_end
    · (try dsimp only [putT, List.set_cons_zero, List.set_cons_succ]); try exact rfl
    refine inBlock_normal (then_normal ?_)
    refine aw_region ?_
    apply al_stepN
    · first | exact op_add (by rfl) (by rfl) (wrap_i64 ⟨by omega, by omega⟩) | exact op_add (by rfl) (by rfl) (by rfl)
    · rfl
    · (try dsimp only [putT, List.set_cons_zero, List.set_cons_succ]); try exact rfl
    apply al_stepN
    · exact op_move_tmp (by rfl)
    · rfl
    · (try dsimp only [putT, List.set_cons_zero, List.set_cons_succ]); try exact rfl
    apply al_end
    · (try dsimp only [putT, List.set_cons_zero, List.set_cons_succ]); try exact rfl
    apply again_to (xs.length - (k + 1)) [false, true, false, true, false, false, false, false, false, false, false, true, true, true, false, false, false, false, false, false, false, false, false, false, false, false, false, false, false, false]
    · (try dsimp only [maskT]); try exact rfl
    · rfl
    · omega
    exact ⟨k + 1, _, _, rfl, by omega, rfl, by rw [encK_step hy]; exact App.own _ _ _, by rw [encK_step hy]; exact okB _ _ _ (okB _ _ _ (okB _ _ _ (hok' _ _))), (((hx.push _ _).setB (nb_le hx)).upN (n := 0) hnt (hok' _ _)).2, by rw [up_upB, up_upB]; exact (((hx.push _ _).setB (nb_le hx)).upN hnt (hok' _ _)).1⟩
  · skip
    (try simp only [decide_eq_true_eq, decide_eq_false_iff_not, beq_iff_eq, beq_eq_false_iff_ne, Bool.not_eq_true', Bool.not_eq_false', bne_iff_ne, ne_eq, Decidable.not_not, bne_eq_false_iff_eq, List.length_map] at hc1)
    (try simp only [List.length_map] at hc1)
    have hke : k = xs.length := by omega
    subst hke
    rw [encK_full] at hv hok
    refine aw_exit ?_
    refine then_exit (again_exit (inBlock_here (then_normal ?_)))
    refine aw_seq ?_
    refine aw_region ?_
    apply al_stepN
    · exact op_move_tmp (by rfl)
    · rfl
    · (try dsimp only [putT, List.set_cons_zero, List.set_cons_succ]); try exact rfl
    apply al_stepN
    · exact op_string Try.underlying86 Try.underlying9 Try.underlying5 hv.ll (by rfl)
    · rfl
    · (try dsimp only [putT, List.set_cons_zero, List.set_cons_succ]); try exact rfl
    apply al_stepN
    · exact op_assign_tmp (by rfl)
    · rfl
    · (try dsimp only [putT, List.set_cons_zero, List.set_cons_succ]); try exact rfl
    apply al_end
    · (try dsimp only [putT, List.set_cons_zero, List.set_cons_succ]); try exact rfl
    refine then_normal ?_
    refine aw_ret ?_
    refine retPost1 rfl rfl ?_
    exact ⟨rfl, hx⟩
/- A collection of bytes. -/
set_option maxRecDepth 100000 in
theorem cdec_ok (Hs : HS) (name s : List UInt8) : ACalls Try.prog 16 [.d (S name), .d (S s)] Hs (Ret (.tup [.d (.agg [S (decName name s), .lst 3 ((decIxs name s).map ixD)]), .d (I (decErr name s))]) Hs) := by
  refine ACalls.tidyT (xs := [.agg [S (decName name s), .lst 3 ((decIxs name s).map ixD)], I (decErr name s)]) ?_
  suffices h : ACalls Try.prog 16 [.d (S name), .d (S s)] Hs (fun av H' => ∃ x, av = .tup [x, .d (I (decErr name s))] ∧ Weak x (.d (.agg [S (decName name s), .lst 3 ((decIxs name s).map ixD)])) ∧ Ext Hs H') from h.weak fun v H' ⟨x, h1, h2, h3⟩ => ⟨_, by rw [h1]; exact Weak.tup (.cons h2 (.cons (Weak.refl _) .nil)), rfl, h3⟩
  obtain ⟨q, ⟨s1, b1⟩, hr⟩ : ∃ q st, rNum 8 (s, false) = (q, st) := ⟨_, _, rfl⟩
  have hn8 := rNum_most hr
  have hdec : decC s = rIxs q (s1, b1) := by unfold decC; rw [hr]
  generalize hst0 : (s1, b1) = st0 at hdec
  refine acalls_of_awC Try.func16 rfl ?_
  refine aw_start (T' := [.d (S name), .d (S s), .un, .un, .un, .un, .un, .un, .un, .un, .un, .un, .un, .un, .un, .un, .un, .un, .un, .un, .un, .un, .un, .un, .un, .un, .un, .un, .un, .un, .un, .un, .un, .un, .un, .un, .un, .un, .un]) rfl ?_
  refine aw_seq ?_
  refine aw_region ?_
  apply al_stepN
  · exact op_alloc (Zr25) (by rfl)
  · rfl
  · (try dsimp only [putT, List.set_cons_zero, List.set_cons_succ]); try exact rfl
  apply al_stepN
  · exact op_assign_const (by rfl)
  · rfl
  · (try dsimp only [putT, List.set_cons_zero, List.set_cons_succ]); try exact rfl
  apply al_end
  · (try dsimp only [putT, List.set_cons_zero, List.set_cons_succ]); try exact rfl
  refine then_normal ?_
  refine aw_seq ?_
  refine aw_region ?_
  apply al_stepN
  · exact op_move_tmp (by rfl)
  · rfl
  · (try dsimp only [putT, List.set_cons_zero, List.set_cons_succ]); try exact rfl
  apply al_stepN
  · exact op_callF Try.func55 (by rfl) (by rfl) (.tmp (by rfl) .nil) (read_ok _ s)
  · rfl
  · (try dsimp only [putT, List.set_cons_zero, List.set_cons_succ]); try exact rfl
  apply al_stepN
  · exact op_assign_tmp (by rfl)
  · rfl
  · (try dsimp only [putT, List.set_cons_zero, List.set_cons_succ]); try exact rfl
  apply al_end
  · (try dsimp only [putT, List.set_cons_zero, List.set_cons_succ]); try exact rfl
  refine then_normal ?_
  refine aw_seq ?_
  refine aw_region ?_
  apply al_stepN
  · exact op_move_tmp (by rfl)
  · rfl
  · (try dsimp only [putT, List.set_cons_zero, List.set_cons_succ]); try exact rfl
  apply al_stepN
  · first | exact op_buildD (pl := [(0, 1), (1, 1)]) _ Try.underlying25 Zr25 (by kernel_rfl) (by rfl) (by rfl) (by rfl) (by simp [DV.one, S, I, TF, BY]) | exact op_build (pl := [(0, 1), (1, 1)]) Try.underlying25 Zr25 (by kernel_rfl) (by rfl) (by rfl) (by rfl)
  · rfl
  · (try dsimp only [putT, List.set_cons_zero, List.set_cons_succ]); try exact rfl
  apply al_stepN
  · exact op_alloc (Zr25) (by rfl)
  · rfl
  · (try dsimp only [putT, List.set_cons_zero, List.set_cons_succ]); try exact rfl
  apply al_stepN
  · exact op_storeB (vs := [.d (S name), nilS]) (b' := ⟨25, [.d (S name), nilS], false⟩) (H' := _) Sz25 (by rfl) push_at (by intro h; cases h) (by rfl) (by rfl) (Nat.le_of_ble_eq_true rfl) (by simp [AV.one, DV.one, TF, S, I, BY]) (by rfl) (by rfl) rfl
  · rfl
  · (try dsimp only [putT, List.set_cons_zero, List.set_cons_succ]); try exact rfl
  apply al_end
  · (try dsimp only [putT, List.set_cons_zero, List.set_cons_succ]); try exact rfl
  refine then_normal ?_
  refine aw_seq ?_
  apply aw_cutF (fun T H => ∃ (v : AV) (t : Option Nat), T = [.un, .un, .un, .un, .ptr Hs.nb 0, .un, .ptr (Hs.nb + 1) 0, .ptr (Hs.nb + 2) 0, .un, .un, .un, .un, .un, .d (I q), .d (I 0), .un, .un, .un, .un, .un, .un, .un, .un, .un, .un, .un, .un, .un, .un, .un, .un, .un, .un, .un, .un, .un, .un, .un, .un] ∧ DecS Hs 25 150 H name v t [] st0)
  · skip
    refine aw_region ?_
    apply al_stepN
    · exact op_move_tmp (by rfl)
    · rfl
    · (try dsimp only [putT, List.set_cons_zero, List.set_cons_succ]); try exact rfl
    apply al_stepN
    · exact op_callF Try.func56 (by rfl) (by rfl) (.tmp (by rfl) (.const (by rfl) .nil)) (num_at hr (by rw [setB_ne (by simp only [push_nb, ne_eq]; omega)]; exact push_ne push_at) (by decide))
    · rfl
    · (try dsimp only [putT, List.set_cons_zero, List.set_cons_succ]); try exact rfl
    apply al_stepN
    · exact op_move_const (by rfl)
    · rfl
    · (try dsimp only [putT, List.set_cons_zero, List.set_cons_succ]); try exact rfl
    apply al_end
    · (try dsimp only [putT, List.set_cons_zero, List.set_cons_succ]); try exact rfl
    apply cut_to [false, false, false, false, true, false, true, true, false, false, false, false, false, true, true, false, false, false, false, false, false, false, false, false, false, false, false, false, false, false, false, false, false, false, false, false, false, false, false]
    · (try dsimp only [maskT]); try exact rfl
    · rfl
    exact ⟨nilS, none, by (simp only [push_nb]) <;> rfl, by subst hst0; simp only [push_nb]; exact DecS.start Hs 25 150 name s _ _ _ _ _⟩
  rintro T H ⟨v, t, rfl, hd⟩
  refine aw_block ?_
  apply aw_loopF (fun n T H => ∃ (k : Nat) (v : AV) (t : Option Nat), T = [.un, .un, .un, .un, .ptr Hs.nb 0, .un, .ptr (Hs.nb + 1) 0, .ptr (Hs.nb + 2) 0, .un, .un, .un, .un, .un, .d (I q), .d (I k), .un, .un, .un, .un, .un, .un, .un, .un, .un, .un, .un, .un, .un, .un, .un, .un, .un, .un, .un, .un, .un, .un, .un, .un] ∧ k ≤ q ∧ n = q - k ∧ DecS Hs 25 150 H name v t (rIxs k st0).1 (rIxs k st0).2) (q) [false, false, false, false, true, false, true, true, false, false, false, false, false, true, true, false, false, false, false, false, false, false, false, false, false, false, false, false, false, false, false, false, false, false, false, false, false, false, false]
  · (try dsimp only [maskT]); try exact rfl
  · rfl
  · exact ⟨0, _, _, rfl, by omega, rfl, hd⟩
  rintro n T H ⟨k, v, t, rfl, hk, rfl, hd⟩
  refine aw_seq ?_
  refine aw_region ?_
  apply al_stepN
  · exact op_ltI (by rfl) (by rfl)
  · rfl
  · (try dsimp only [putT, List.set_cons_zero, List.set_cons_succ]); try exact rfl
  apply al_end
  · (try dsimp only [putT, List.set_cons_zero, List.set_cons_succ]); try exact rfl
  refine then_normal ?_
  refine aw_seq ?_
  refine aw_cond rfl (fun hc1 => ?_) (fun hc1 => ?_)
  · skip
    (try simp only [decide_eq_true_eq, decide_eq_false_iff_not, beq_iff_eq, beq_eq_false_iff_ne, Bool.not_eq_true', Bool.not_eq_false', bne_iff_ne, ne_eq, Decidable.not_not, bne_eq_false_iff_eq, List.length_map] at hc1)
    have hlt : k < q := by omega
    have hlx := rIxs_len k st0
    refine aw_skip ?_
    refine then_normal ?_
    refine aw_seq ?_
    refine aw_block ?_
    refine aw_drawX (fun K => K.blks[Hs.nb + 2]? = some ⟨25, [.d (S name), v], false⟩) [0, 0, 0, 2, 0, 2, 0, 2, 0, 0, 2, 0, 2] mixed (by kernel_rfl) (hd.e3) (.inr (by kernel_rfl)) ?_
    apply drun0X
    · intro H hPhi; first | exact op_fieldAddr_ptr Try.underlying25 rfl Sz23 (by rfl) (by rfl) | exact op_fieldAddr_elt Try.underlying25 rfl Sz23 (by rfl) (by rfl) (by rfl)
    · rfl
    apply drun_normT
    · (try dsimp only [putT, List.set_cons_zero, List.set_cons_succ]); try exact rfl
    apply drun0X
    · intro H hPhi; first | exact op_load_elt Try.underlying23 (by rfl) (by rfl) (by rfl) | exact op_load_ptr Try.underlying23 (by rfl) (by rfl) (by first | exact hPhi | exact hd.e3) (by rfl)
    · rfl
    apply drun_normT
    · (try dsimp only [putT, List.set_cons_zero, List.set_cons_succ]); try exact rfl
    apply drun0X
    · intro H hPhi; exact op_move_tmp (by rfl)
    · rfl
    apply drun_normT
    · (try dsimp only [putT, List.set_cons_zero, List.set_cons_succ]); try exact rfl
    apply drun2X
    · exact op_callF Try.func57 (by rfl) (by rfl) (.tmp (by rfl) (.const (by rfl) .nil)) (rtext_ok _ _ (rIxs k st0).2.1 (rIxs k st0).2.2 40 hd.e2 (by decide))
    · rfl
    · refine .inr ?_; simp only [HS.up_blks, setB_ne (show Hs.nb + 2 ≠ Hs.nb + 1 by omega)]; exact hd.e3
    apply drun_normT
    · (try dsimp only [putT, List.set_cons_zero, List.set_cons_succ]); try exact rfl
    apply drun0X
    · intro H hPhi; exact op_move_tmp (by rfl)
    · rfl
    apply drun_normT
    · (try dsimp only [putT, List.set_cons_zero, List.set_cons_succ]); try exact rfl
    apply drun2X
    · exact op_callF Try.func57 (by rfl) (by rfl) (.tmp (by rfl) (.const (by rfl) .nil)) (rtext_ok _ _ _ _ 40 (setB_at hd.e2) (by decide))
    · rfl
    · refine .inr ?_; simp only [HS.up_blks, setB_ne (show Hs.nb + 2 ≠ Hs.nb + 1 by omega)]; exact hd.e3
    apply drun_normT
    · (try dsimp only [putT, List.set_cons_zero, List.set_cons_succ]); try exact rfl
    apply drun0X
    · intro H hPhi; exact op_move_tmp (by rfl)
    · rfl
    apply drun_normT
    · (try dsimp only [putT, List.set_cons_zero, List.set_cons_succ]); try exact rfl
    apply drun2X
    · exact op_callF Try.func58 (by rfl) (by rfl) (.tmp (by rfl) .nil) (rflag_ok _ _ _ _ (setB_at (setB_at hd.e2)))
    · rfl
    · refine .inr ?_; simp only [HS.up_blks, setB_ne (show Hs.nb + 2 ≠ Hs.nb + 1 by omega)]; exact hd.e3
    apply drun_normT
    · (try dsimp only [putT, List.set_cons_zero, List.set_cons_succ]); try exact rfl
    apply drun0X
    · intro H hPhi; exact op_buildD (pl := [(0, 1), (1, 1), (2, 1)]) (ixC (rIx (rIxs k st0).2).1) Try.underlying32 Zr32 (by kernel_rfl) (by rfl) (by rfl) (by rfl) (by simp [ixC, DV.one, S, TF])
    · rfl
    apply drun_normT
    · (try dsimp only [putT, List.set_cons_zero, List.set_cons_succ]); try exact rfl
    apply drun0X
    · intro H hPhi; exact op_lit Try.underlying23 ZS32 (.cons (y := ixD (rIx (rIxs k st0).2).1) (by rfl) (.nil _)) (by rfl) (by simp [ixD, ixC, DV.cells]) (by simp [flat, ixD, ixC, S, TF, DV.cells, DV.one]) (by decide)
    · rfl
    apply drun_normT
    · (try dsimp only [putT, List.set_cons_zero, List.set_cons_succ]); try exact rfl
    apply drun2X
    · exact op_append Try.underlying23 Inf32 (by rfl) hd.app (.list _ _ _ _ Try.underlying23 (LL.own _ _ _)) (by rw [List.length_map]; exact hd.ok) (by simp) (by simp; omega) (by simp; omega)
    · rfl
    · refine .inr ?_; simp only [HS.up_blks, setB_ne (show Hs.nb + 2 ≠ Hs.nb + 1 by omega)]; exact hd.e3
    apply drun_normT
    · (try dsimp only [putT, List.set_cons_zero, List.set_cons_succ]); try exact rfl
    apply drun0X
    · intro H hPhi; first | exact op_fieldAddr_ptr Try.underlying25 rfl Sz23 (by rfl) (by rfl) | exact op_fieldAddr_elt Try.underlying25 rfl Sz23 (by rfl) (by rfl) (by rfl)
    · rfl
    apply drun_normT
    · (try dsimp only [putT, List.set_cons_zero, List.set_cons_succ]); try exact rfl
    apply drun2X
    · exact op_storeB (vs := [.own _ 3 _]) (b' := ⟨25, [.d (S name), .own _ 3 _], false⟩) (H' := _) Sz23 (by rfl) (by rw [HS.up_blks, setB_ne (by omega), setB_ne (by omega), setB_ne (by omega)]; exact hd.e3) (by intro h; cases h) (by rfl) (by rfl) (Nat.le_of_ble_eq_true rfl) (by simp [AV.one, DV.one, TF, S, I, BY]) (by rfl) (by rfl) rfl
    · rfl
    · exact .inl rfl
    apply drun_normT
    · (try dsimp only [putT, List.set_cons_zero, List.set_cons_succ]); try exact rfl
    apply drun_end
    · (try dsimp only [putT, List.set_cons_zero, List.set_cons_succ]); try exact rfl
    refine inBlock_normal (then_normal ?_)
    refine aw_region ?_
    apply al_stepN
    · first | exact op_add (by rfl) (by rfl) (wrap_i64 ⟨by omega, by omega⟩) | exact op_add (by rfl) (by rfl) (by rfl)
    · rfl
    · (try dsimp only [putT, List.set_cons_zero, List.set_cons_succ]); try exact rfl
    apply al_stepN
    · exact op_move_tmp (by rfl)
    · rfl
    · (try dsimp only [putT, List.set_cons_zero, List.set_cons_succ]); try exact rfl
    apply al_end
    · (try dsimp only [putT, List.set_cons_zero, List.set_cons_succ]); try exact rfl
    apply again_to (q - (k + 1)) [false, false, false, false, true, false, true, true, false, false, false, false, false, true, true, false, false, false, false, false, false, false, false, false, false, false, false, false, false, false, false, false, false, false, false, false, false, false, false]
    · (try dsimp only [maskT]); try exact rfl
    · rfl
    · omega
    exact ⟨k + 1, _, _, rfl, by omega, rfl, hd.step (by simp)⟩
  · skip
    (try simp only [decide_eq_true_eq, decide_eq_false_iff_not, beq_iff_eq, beq_eq_false_iff_ne, Bool.not_eq_true', Bool.not_eq_false', bne_iff_ne, ne_eq, Decidable.not_not, bne_eq_false_iff_eq, List.length_map] at hc1)
    have hke : q = k := by omega
    subst hke
    refine aw_exit ?_
    refine then_exit (again_exit (inBlock_here (then_normal ?_)))
    refine aw_seq ?_
    refine aw_seq ?_
    refine aw_region ?_
    apply al_stepN
    · exact op_move_tmp (by rfl)
    · rfl
    · (try dsimp only [putT, List.set_cons_zero, List.set_cons_succ]); try exact rfl
    apply al_stepN
    · exact op_callF Try.func59 (by rfl) (by rfl) (.tmp (by rfl) .nil) (end_ok _ _ (rIxs q st0).2.1 (rIxs q st0).2.2 hd.e2)
    · rfl
    · (try dsimp only [putT, List.set_cons_zero, List.set_cons_succ]); try exact rfl
    apply al_stepN
    · exact op_neI (by rfl) (by rfl)
    · rfl
    · (try dsimp only [putT, List.set_cons_zero, List.set_cons_succ]); try exact rfl
    apply al_stepN
    · exact op_move_tmp (by rfl)
    · rfl
    · (try dsimp only [putT, List.set_cons_zero, List.set_cons_succ]); try exact rfl
    refine al_split 32 rfl (fun hg2 => ?_) (fun hg2 => ?_)
    · skip
      (try simp only [decide_eq_true_eq, decide_eq_false_iff_not, beq_iff_eq, beq_eq_false_iff_ne, Bool.not_eq_true', Bool.not_eq_false', bne_iff_ne, ne_eq, Decidable.not_not, bne_eq_false_iff_eq, List.length_map] at hg2)
      have hne : ¬ rEnd (rIxs q st0).2 = 0 := hg2
      apply al_normT
      · (try dsimp only [putT, List.set_cons_zero, List.set_cons_succ]); try exact rfl
      refine al_unwanted rfl rfl rfl rfl ?_
      apply al_normT
      · (try dsimp only [putT, List.set_cons_zero, List.set_cons_succ]); try exact rfl
      refine al_unwanted rfl rfl rfl rfl ?_
      apply al_normT
      · (try dsimp only [putT, List.set_cons_zero, List.set_cons_succ]); try exact rfl
      refine al_unwanted rfl rfl rfl rfl ?_
      apply al_normT
      · (try dsimp only [putT, List.set_cons_zero, List.set_cons_succ]); try exact rfl
      apply al_stepN
      · exact op_pick_tt (by rfl) (val_const (by rfl))
      · rfl
      · (try dsimp only [putT, List.set_cons_zero, List.set_cons_succ]); try exact rfl
      apply al_end
      · (try dsimp only [putT, List.set_cons_zero, List.set_cons_succ]); try exact rfl
      refine then_normal ?_
      refine aw_cond rfl (fun _ => ?_) (fun h => by cases h)
      refine aw_seq ?_
      refine aw_region ?_
      apply al_stepN
      · first | exact op_buildD (pl := [(0, 1), (1, 1)]) _ Try.underlying25 Zr25 (by kernel_rfl) (by rfl) (by rfl) (by rfl) (by simp [DV.one, S, I, TF, BY]) | exact op_build (pl := [(0, 1), (1, 1)]) Try.underlying25 Zr25 (by kernel_rfl) (by rfl) (by rfl) (by rfl)
      · rfl
      · (try dsimp only [putT, List.set_cons_zero, List.set_cons_succ]); try exact rfl
      apply al_stepN
      · exact op_storeB (vs := [.d (S []), nilS]) (b' := ⟨25, [.d (S []), nilS], false⟩) (H' := _) Sz25 (by rfl) (hd.e1.choose_spec.choose_spec) (by intro h; cases h) (by rfl) (by rfl) (Nat.le_of_ble_eq_true rfl) (by simp [AV.one, DV.one, TF, S, I, BY]) (by rfl) (by rfl) rfl
      · rfl
      · (try dsimp only [putT, List.set_cons_zero, List.set_cons_succ]); try exact rfl
      apply al_stepN
      · exact op_assign_const (by rfl)
      · rfl
      · (try dsimp only [putT, List.set_cons_zero, List.set_cons_succ]); try exact rfl
      apply al_end
      · (try dsimp only [putT, List.set_cons_zero, List.set_cons_succ]); try exact rfl
      refine then_normal ?_
      refine aw_ret ?_
      refine then_ret ?_
      refine retC2 rfl (.cells Try.underlying25 (by rfl) Sz25 (by rfl) (setB_at hd.e1.choose_spec.choose_spec) (Nat.le_of_ble_eq_true rfl) (by rfl)) (.tmp (by rfl)) ?_
      have e : decOk name s = false := by simp [decOk, hdec, hne]
      exact ⟨_, by simp only [decErr, e]; rfl, by simp only [decName, decIxs, e]; exact Weak.aggD (.cons (Weak.refl _) (.cons (Weak.nil 3) .nil)) (by simp [DV.one, S]), hd.ext.setB (Nat.le_refl _)⟩
    · skip
      (try simp only [decide_eq_true_eq, decide_eq_false_iff_not, beq_iff_eq, beq_eq_false_iff_ne, Bool.not_eq_true', Bool.not_eq_false', bne_iff_ne, ne_eq, Decidable.not_not, bne_eq_false_iff_eq, List.length_map] at hg2)
      have heq : rEnd (rIxs q st0).2 = 0 := by simpa using hg2
      apply al_normT
      · (try dsimp only [putT, List.set_cons_zero, List.set_cons_succ]); try exact rfl
      apply al_wantedN
      · rfl
      · rfl
      · rfl
      · exact op_load_ptrsW (off := 0) [S name, .lst 3 ((rIxs q st0).1.map ixD)] Try.underlying25 (by rfl) Sz25 (by rfl) hd.e3 (Nat.le_of_ble_eq_true rfl) (.cons (Weak.refl _) (.cons (Weak.lst hd.app) .nil)) (by simp [DV.one, S])
      · (try dsimp only [putT, List.set_cons_zero, List.set_cons_succ]); try exact rfl
      apply al_wantedN
      · rfl
      · rfl
      · rfl
      · exact op_callF Try.func17 (by rfl) (by rfl) (.tmp (by rfl) .nil) (cright_ok _ name (rIxs q st0).1)
      · (try dsimp only [putT, List.set_cons_zero, List.set_cons_succ]); try exact rfl
      apply al_wantedN
      · rfl
      · rfl
      · rfl
      · exact op_not (by rfl)
      · (try dsimp only [putT, List.set_cons_zero, List.set_cons_succ]); try exact rfl
      apply al_stepN
      · exact op_pick_ff (by rfl) (val_tmp (by rfl))
      · rfl
      · (try dsimp only [putT, List.set_cons_zero, List.set_cons_succ]); try exact rfl
      apply al_end
      · (try dsimp only [putT, List.set_cons_zero, List.set_cons_succ]); try exact rfl
      refine then_normal ?_
      refine aw_cond rfl (fun hc4 => ?_) (fun hc4 => ?_)
      · skip
        (try simp only [decide_eq_true_eq, decide_eq_false_iff_not, beq_iff_eq, beq_eq_false_iff_ne, Bool.not_eq_true', Bool.not_eq_false', bne_iff_ne, ne_eq, Decidable.not_not, bne_eq_false_iff_eq, List.length_map] at hc4)
        have hrt : rightC name (rIxs q st0).1 = false := by simpa using hc4
        refine aw_seq ?_
        refine aw_region ?_
        apply al_stepN
        · first | exact op_buildD (pl := [(0, 1), (1, 1)]) _ Try.underlying25 Zr25 (by kernel_rfl) (by rfl) (by rfl) (by rfl) (by simp [DV.one, S, I, TF, BY]) | exact op_build (pl := [(0, 1), (1, 1)]) Try.underlying25 Zr25 (by kernel_rfl) (by rfl) (by rfl) (by rfl)
        · rfl
        · (try dsimp only [putT, List.set_cons_zero, List.set_cons_succ]); try exact rfl
        apply al_stepN
        · exact op_storeB (vs := [.d (S []), nilS]) (b' := ⟨25, [.d (S []), nilS], false⟩) (H' := _) Sz25 (by rfl) (hd.e1.choose_spec.choose_spec) (by intro h; cases h) (by rfl) (by rfl) (Nat.le_of_ble_eq_true rfl) (by simp [AV.one, DV.one, TF, S, I, BY]) (by rfl) (by rfl) rfl
        · rfl
        · (try dsimp only [putT, List.set_cons_zero, List.set_cons_succ]); try exact rfl
        apply al_stepN
        · exact op_assign_const (by rfl)
        · rfl
        · (try dsimp only [putT, List.set_cons_zero, List.set_cons_succ]); try exact rfl
        apply al_end
        · (try dsimp only [putT, List.set_cons_zero, List.set_cons_succ]); try exact rfl
        refine then_normal ?_
        refine aw_ret ?_
        refine then_ret ?_
        refine retC2 rfl (.cells Try.underlying25 (by rfl) Sz25 (by rfl) (setB_at hd.e1.choose_spec.choose_spec) (Nat.le_of_ble_eq_true rfl) (by rfl)) (.tmp (by rfl)) ?_
        have e : decOk name s = false := by simp [decOk, hdec, heq, hrt]
        exact ⟨_, by simp only [decErr, e]; rfl, by simp only [decName, decIxs, e]; exact Weak.aggD (.cons (Weak.refl _) (.cons (Weak.nil 3) .nil)) (by simp [DV.one, S]), hd.ext.setB (Nat.le_refl _)⟩
      · skip
        (try simp only [decide_eq_true_eq, decide_eq_false_iff_not, beq_iff_eq, beq_eq_false_iff_ne, Bool.not_eq_true', Bool.not_eq_false', bne_iff_ne, ne_eq, Decidable.not_not, bne_eq_false_iff_eq, List.length_map] at hc4)
        have hrt : rightC name (rIxs q st0).1 = true := by simpa using hc4
        refine aw_skip ?_
        refine then_normal ?_
        refine aw_seq ?_
        refine aw_region ?_
        apply al_stepN
        · exact op_load_ptrsW (off := 0) [S name, .lst 3 ((rIxs q st0).1.map ixD)] Try.underlying25 (by rfl) Sz25 (by rfl) hd.e3 (Nat.le_of_ble_eq_true rfl) (.cons (Weak.refl _) (.cons (Weak.lst hd.app) .nil)) (by simp [DV.one, S])
        · rfl
        · (try dsimp only [putT, List.set_cons_zero, List.set_cons_succ]); try exact rfl
        apply al_stepN
        · exact op_storeB (vs := [.d (S name), .d (.lst 3 ((rIxs q st0).1.map ixD))]) (b' := ⟨25, [.d (S name), .d (.lst 3 ((rIxs q st0).1.map ixD))], false⟩) (H' := _) Sz25 (by rfl) (hd.e1.choose_spec.choose_spec) (by intro h; cases h) (by rfl) (by rfl) (Nat.le_of_ble_eq_true rfl) (by simp [AV.one, DV.one, TF, S, I, BY]) (by rfl) (by rfl) rfl
        · rfl
        · (try dsimp only [putT, List.set_cons_zero, List.set_cons_succ]); try exact rfl
        apply al_stepN
        · exact op_assign_const (by rfl)
        · rfl
        · (try dsimp only [putT, List.set_cons_zero, List.set_cons_succ]); try exact rfl
        apply al_end
        · (try dsimp only [putT, List.set_cons_zero, List.set_cons_succ]); try exact rfl
        refine then_normal ?_
        refine aw_ret ?_
        refine retC2 rfl (.cells Try.underlying25 (by rfl) Sz25 (by rfl) (setB_at hd.e1.choose_spec.choose_spec) (Nat.le_of_ble_eq_true rfl) (by rfl)) (.tmp (by rfl)) ?_
        have e : decOk name s = true := by simp [decOk, hdec, heq, hrt]
        exact ⟨_, by simp only [decErr, e]; rfl, by simp only [decName, decIxs, e, hdec, if_true]; exact Weak.aggD (.cons (Weak.refl _) (.cons (Weak.refl _) .nil)) (by simp [DV.one, S]), hd.ext.setB (Nat.le_refl _)⟩
end Go.Proofs.Ytadkehaagkjbhaa
