/- What the order of the laws of layer 2 comes to. -/
import Derived.Test.YtadkehaagkjbhaaFacts
import Derived.Test.YtadkehaagkjbhaaValOrd3
import Derived.KernelRfl
namespace Go.Proofs.Ytadkehaagkjbhaa
open Go.AV Go.AV.Ord Go.AV.Oct Go.AV.Val
set_option linter.unusedVariables false
set_option linter.unusedSimpArgs false
/- Less, or greater. -/
set_option maxRecDepth 100000 in
theorem less_ok (Hs : HS) (b : Bool) : ACalls Try.prog 89 [.d (TF b)] Hs (Ret (.d (I (lessI b))) Hs) := by
  refine acalls_of_aw Try.func89 rfl ?_
  refine aw_start (T' := [.d (TF b), .un, .un, .un]) rfl ?_
  refine aw_seq ?_
  refine aw_region ?_
  apply al_stepN
  · exact op_assign_const (by rfl)
  · rfl
  · (try dsimp only [zS, zN, zH, zT]); try exact rfl
  apply al_end
  · (try dsimp only [zS, zN, zH, zT]); try exact rfl
  refine then_normal ?_
  refine aw_seq ?_
  refine aw_seq ?_
  refine aw_region ?_
  apply al_stepN
  · exact op_move_tmp (by rfl)
  · rfl
  · (try dsimp only [zS, zN, zH, zT]); try exact rfl
  apply al_end
  · (try dsimp only [zS, zN, zH, zT]); try exact rfl
  refine then_normal ?_
  refine aw_cond rfl (fun hc1 => ?_) (fun hc1 => ?_)
  · skip
    (try simp only [decide_eq_true_eq, decide_eq_false_iff_not, beq_iff_eq, beq_eq_false_iff_ne, Bool.not_eq_true', Bool.not_eq_false', bne_iff_ne, ne_eq, Decidable.not_not, bne_eq_false_iff_eq, List.length_map] at hc1)
    refine aw_seq ?_
    refine aw_region ?_
    apply al_stepN
    · exact op_assign_const (by rfl)
    · rfl
    · (try dsimp only [zS, zN, zH, zT]); try exact rfl
    apply al_end
    · (try dsimp only [zS, zN, zH, zT]); try exact rfl
    refine then_normal ?_
    refine aw_ret ?_
    refine then_ret ?_
    refine retPost1 rfl rfl ?_
    exact ⟨by subst hc1; rfl, rfl⟩
  · skip
    (try simp only [decide_eq_true_eq, decide_eq_false_iff_not, beq_iff_eq, beq_eq_false_iff_ne, Bool.not_eq_true', Bool.not_eq_false', bne_iff_ne, ne_eq, Decidable.not_not, bne_eq_false_iff_eq, List.length_map] at hc1)
    refine aw_skip ?_
    refine then_normal ?_
    refine aw_seq ?_
    refine aw_region ?_
    apply al_stepN
    · exact op_assign_const (by rfl)
    · rfl
    · (try dsimp only [zS, zN, zH, zT]); try exact rfl
    apply al_end
    · (try dsimp only [zS, zN, zH, zT]); try exact rfl
    refine then_normal ?_
    refine aw_ret ?_
    refine retPost1 rfl rfl ?_
    exact ⟨by (have h : b = false := by simpa using hc1); subst h; rfl, rfl⟩
/- The order of two values, as the law lays it down. -/
set_option maxHeartbeats 1000000 in
set_option maxRecDepth 100000 in
theorem order_step (Hs : HS) (k : Int) (y : Bool) (i : Int) (tx : List UInt8) (ls : List V) (fs : List F) (o : V) (hls : ls.length ≤ 1000000) (hfs : fs.length ≤ 1000000) (ha : onlyV (.mk k y i tx ls fs) = true) (hb : onlyV o = true) (ihL : ∀ x ∈ ls, ∀ z ∈ o.list, ∀ Hs : HS, ACalls Try.prog 52 [.d (.agg (vC x)), .d (.agg (vC z))] Hs (Ret (.d (I (cmpV x z))) Hs)) (ihF : ∀ x ∈ fs, ∀ z ∈ o.fields, ∀ Hs : HS, ACalls Try.prog 52 [.d (.agg (vC x.val)), .d (.agg (vC z.val))] Hs (Ret (.d (I (cmpV x.val z.val))) Hs)) : ACalls Try.prog 52 [.d (.agg (v6D k y i tx ls fs)), .d (.agg (vC o))] Hs (Ret (.d (I (cmpV (.mk k y i tx ls fs) o))) Hs) := by
  refine acalls_of_aw Try.func52 rfl ?_
  refine aw_start (T' := ((.d (.agg (v6D k y i tx ls fs))) :: (.d (.agg (vC o))) :: .un :: .un :: .un :: .un :: .un :: .un :: .un :: .un :: .un :: .un :: .un :: .un :: .un :: .un :: .un :: .un :: .un :: .un :: .un :: .un :: .un :: .un :: .un :: .un :: .un :: .un :: .un :: .un :: .un :: .un :: .un :: .un :: .un :: .un :: .un :: .un :: .un :: .un :: .un :: .un :: .un :: .un :: .un :: .un :: .un :: .un :: .un :: .un :: .un :: .un :: .un :: .un :: .un :: .un :: .un :: .un :: .un :: .un :: .un :: .un :: .un :: .un :: .un :: .un :: .un :: .un :: .un :: .un :: .un :: .un :: .un :: .un :: .un :: .un :: .un :: .un :: .un :: .un :: .un :: .un :: .un :: .un :: .un :: .un :: .un :: .un :: .un :: .un :: .un :: .un :: .un :: .un :: .un :: .un :: .un :: .un :: .un :: .un :: .un :: .un :: .un :: .un :: .un :: .un :: .un :: .un :: .un :: .un :: .un :: .un :: .un :: .un :: .un :: .un :: .un :: .un :: .un :: .un :: .un :: .un :: .un :: .un :: .un :: .un :: .un :: .un :: .un :: .un :: .un :: .un :: .un :: .un :: .un :: .un :: .un :: .un :: .un :: .un :: .un :: .un :: .un :: .un :: .un :: .un :: .un :: .un :: .un :: .un :: .un :: .un :: .un :: .un :: .un :: .un :: .un :: .un :: .un :: .un :: .un :: .un :: .un :: .un :: .un :: .un :: .un :: .un :: .un :: .un :: .un :: .un :: .un :: .un :: .un :: .un :: .un :: [])) rfl ?_
  refine aw_seq ?_
  refine aw_region ?_
  apply al_stepN
  · exact op_box_elt (cs := v6D k y i tx ls fs) (by rfl) (by rfl)
  · rfl
  · (try dsimp only [zS, zN, zH, zT]); try exact rfl
  apply al_stepN
  · exact op_box_elt (cs := [I o.kind, TF o.yes, .v (.int .i64 o.num), S o.text, .lst 6 (o.list.map vD), .lst 7 (o.fields.map fD)]) (by rfl) (vD_cells o)
  · rfl
  · (try dsimp only [zS, zN, zH, zT]); try exact rfl
  apply al_stepN
  · exact op_assign_const (by rfl)
  · rfl
  · (try dsimp only [zS, zN, zH, zT]); try exact rfl
  apply al_end
  · (try dsimp only [zS, zN, zH, zT]); try exact rfl
  refine then_normal ?_
  refine aw_seq ?_
  refine aw_region ?_
  apply al_stepN
  · exact op_assign_func
  · rfl
  · (try dsimp only [zS, zN, zH, zT]); try exact rfl
  apply al_end
  · (try dsimp only [zS, zN, zH, zT]); try exact rfl
  refine then_normal ?_
  refine aw_seq ?_
  refine aw_block ?_
  refine aw_seq ?_
  refine aw_region ?_
  apply al_stepN
  · first | exact op_fieldAddr_ptr Try.underlying37 rfl Sz33 (by rfl) (by rfl) | exact op_fieldAddr_elt Try.underlying37 rfl Sz33 (by rfl) (by rfl) (by rfl)
  · rfl
  · (try dsimp only [zS, zN, zH, zT]); try exact rfl
  apply al_stepN
  · first | exact op_load_elt Try.underlying33 (by rfl) (by rfl) (by rfl) | exact op_load_ptr Try.underlying33 (by rfl) (by rfl) (by rfl) (by rfl)
  · rfl
  · (try dsimp only [zS, zN, zH, zT]); try exact rfl
  apply al_stepN
  · first | exact op_fieldAddr_ptr Try.underlying37 rfl Sz33 (by rfl) (by rfl) | exact op_fieldAddr_elt Try.underlying37 rfl Sz33 (by rfl) (by rfl) (by rfl)
  · rfl
  · (try dsimp only [zS, zN, zH, zT]); try exact rfl
  apply al_stepN
  · first | exact op_load_elt Try.underlying33 (by rfl) (by rfl) (by rfl) | exact op_load_ptr Try.underlying33 (by rfl) (by rfl) (by rfl) (by rfl)
  · rfl
  · (try dsimp only [zS, zN, zH, zT]); try exact rfl
  apply al_stepN
  · exact op_neI (by rfl) (by rfl)
  · rfl
  · (try dsimp only [zS, zN, zH, zT]); try exact rfl
  apply al_stepN
  · exact op_assign_tmp (by rfl)
  · rfl
  · (try dsimp only [zS, zN, zH, zT]); try exact rfl
  apply al_end
  · (try dsimp only [zS, zN, zH, zT]); try exact rfl
  refine then_normal ?_
  refine aw_cond rfl (fun hc1 => ?_) (fun hc1 => ?_)
  · skip
    (try simp only [decide_eq_true_eq, decide_eq_false_iff_not, beq_iff_eq, beq_eq_false_iff_ne, Bool.not_eq_true', Bool.not_eq_false', bne_iff_ne, ne_eq, Decidable.not_not, bne_eq_false_iff_eq, List.length_map] at hc1)
    have hk : ¬ k = o.kind := hc1
    refine aw_seq ?_
    refine aw_region ?_
    apply al_stepN
    · exact op_move_tmp (by rfl)
    · rfl
    · (try dsimp only [zS, zN, zH, zT]); try exact rfl
    apply al_stepN
    · first | exact op_fieldAddr_ptr Try.underlying37 rfl Sz33 (by rfl) (by rfl) | exact op_fieldAddr_elt Try.underlying37 rfl Sz33 (by rfl) (by rfl) (by rfl)
    · rfl
    · (try dsimp only [zS, zN, zH, zT]); try exact rfl
    apply al_stepN
    · first | exact op_load_elt Try.underlying33 (by rfl) (by rfl) (by rfl) | exact op_load_ptr Try.underlying33 (by rfl) (by rfl) (by rfl) (by rfl)
    · rfl
    · (try dsimp only [zS, zN, zH, zT]); try exact rfl
    apply al_stepN
    · first | exact op_fieldAddr_ptr Try.underlying37 rfl Sz33 (by rfl) (by rfl) | exact op_fieldAddr_elt Try.underlying37 rfl Sz33 (by rfl) (by rfl) (by rfl)
    · rfl
    · (try dsimp only [zS, zN, zH, zT]); try exact rfl
    apply al_stepN
    · first | exact op_load_elt Try.underlying33 (by rfl) (by rfl) (by rfl) | exact op_load_ptr Try.underlying33 (by rfl) (by rfl) (by rfl) (by rfl)
    · rfl
    · (try dsimp only [zS, zN, zH, zT]); try exact rfl
    apply al_stepN
    · exact op_ltI (by rfl) (by rfl)
    · rfl
    · (try dsimp only [zS, zN, zH, zT]); try exact rfl
    apply al_stepN
    · exact op_callV (by rfl) Try.func89 (by rfl) (by rfl) (.tmp (by rfl) .nil) (less_ok _ _)
    · rfl
    · (try dsimp only [zS, zN, zH, zT]); try exact rfl
    apply al_stepN
    · exact op_assign_tmp (by rfl)
    · rfl
    · (try dsimp only [zS, zN, zH, zT]); try exact rfl
    apply al_end
    · (try dsimp only [zS, zN, zH, zT]); try exact rfl
    refine then_normal ?_
    refine aw_ret ?_
    refine inBlock_ret (then_ret ?_)
    refine retPost1 rfl rfl ?_
    exact ⟨by rw [cmp_k hk], rfl⟩
  · skip
    (try simp only [decide_eq_true_eq, decide_eq_false_iff_not, beq_iff_eq, beq_eq_false_iff_ne, Bool.not_eq_true', Bool.not_eq_false', bne_iff_ne, ne_eq, Decidable.not_not, bne_eq_false_iff_eq, List.length_map] at hc1)
    have hk : k = o.kind := by simpa using hc1
    refine aw_seq ?_
    refine aw_region ?_
    apply al_stepN
    · first | exact op_fieldAddr_ptr Try.underlying37 rfl Sz4 (by rfl) (by rfl) | exact op_fieldAddr_elt Try.underlying37 rfl Sz4 (by rfl) (by rfl) (by rfl)
    · rfl
    · (try dsimp only [zS, zN, zH, zT]); try exact rfl
    apply al_stepN
    · first | exact op_load_elt Try.underlying4 (by rfl) (by rfl) (by rfl) | exact op_load_ptr Try.underlying4 (by rfl) (by rfl) (by rfl) (by rfl)
    · rfl
    · (try dsimp only [zS, zN, zH, zT]); try exact rfl
    apply al_stepN
    · first | exact op_fieldAddr_ptr Try.underlying37 rfl Sz4 (by rfl) (by rfl) | exact op_fieldAddr_elt Try.underlying37 rfl Sz4 (by rfl) (by rfl) (by rfl)
    · rfl
    · (try dsimp only [zS, zN, zH, zT]); try exact rfl
    apply al_stepN
    · first | exact op_load_elt Try.underlying4 (by rfl) (by rfl) (by rfl) | exact op_load_ptr Try.underlying4 (by rfl) (by rfl) (by rfl) (by rfl)
    · rfl
    · (try dsimp only [zS, zN, zH, zT]); try exact rfl
    apply al_stepN
    · exact op_neB Try.underlying4 (by rfl) (by rfl)
    · rfl
    · (try dsimp only [zS, zN, zH, zT]); try exact rfl
    apply al_stepN
    · exact op_assign_tmp (by rfl)
    · rfl
    · (try dsimp only [zS, zN, zH, zT]); try exact rfl
    apply al_end
    · (try dsimp only [zS, zN, zH, zT]); try exact rfl
    refine then_normal ?_
    refine aw_cond rfl (fun hc2 => ?_) (fun hc2 => ?_)
    · skip
      (try simp only [decide_eq_true_eq, decide_eq_false_iff_not, beq_iff_eq, beq_eq_false_iff_ne, Bool.not_eq_true', Bool.not_eq_false', bne_iff_ne, ne_eq, Decidable.not_not, bne_eq_false_iff_eq, List.length_map] at hc2)
      have hy : ¬ y = o.yes := by simpa using hc2
      refine aw_seq ?_
      refine aw_region ?_
      apply al_stepN
      · exact op_move_tmp (by rfl)
      · rfl
      · (try dsimp only [zS, zN, zH, zT]); try exact rfl
      apply al_stepN
      · first | exact op_fieldAddr_ptr Try.underlying37 rfl Sz4 (by rfl) (by rfl) | exact op_fieldAddr_elt Try.underlying37 rfl Sz4 (by rfl) (by rfl) (by rfl)
      · rfl
      · (try dsimp only [zS, zN, zH, zT]); try exact rfl
      apply al_stepN
      · first | exact op_load_elt Try.underlying4 (by rfl) (by rfl) (by rfl) | exact op_load_ptr Try.underlying4 (by rfl) (by rfl) (by rfl) (by rfl)
      · rfl
      · (try dsimp only [zS, zN, zH, zT]); try exact rfl
      apply al_stepN
      · exact op_callV (by rfl) Try.func89 (by rfl) (by rfl) (.tmp (by rfl) .nil) (less_ok _ _)
      · rfl
      · (try dsimp only [zS, zN, zH, zT]); try exact rfl
      apply al_stepN
      · exact op_assign_tmp (by rfl)
      · rfl
      · (try dsimp only [zS, zN, zH, zT]); try exact rfl
      apply al_end
      · (try dsimp only [zS, zN, zH, zT]); try exact rfl
      refine then_normal ?_
      refine aw_ret ?_
      refine inBlock_ret (then_ret ?_)
      refine retPost1 rfl rfl ?_
      exact ⟨by rw [cmp_y ha hb hk hy], rfl⟩
    · skip
      (try simp only [decide_eq_true_eq, decide_eq_false_iff_not, beq_iff_eq, beq_eq_false_iff_ne, Bool.not_eq_true', Bool.not_eq_false', bne_iff_ne, ne_eq, Decidable.not_not, bne_eq_false_iff_eq, List.length_map] at hc2)
      have hy : y = o.yes := by simpa using hc2
      refine aw_seq ?_
      refine aw_region ?_
      apply al_stepN
      · first | exact op_fieldAddr_ptr Try.underlying37 rfl Sz2 (by rfl) (by rfl) | exact op_fieldAddr_elt Try.underlying37 rfl Sz2 (by rfl) (by rfl) (by rfl)
      · rfl
      · (try dsimp only [zS, zN, zH, zT]); try exact rfl
      apply al_stepN
      · first | exact op_load_elt Try.underlying2 (by rfl) (by rfl) (by rfl) | exact op_load_ptr Try.underlying2 (by rfl) (by rfl) (by rfl) (by rfl)
      · rfl
      · (try dsimp only [zS, zN, zH, zT]); try exact rfl
      apply al_stepN
      · first | exact op_fieldAddr_ptr Try.underlying37 rfl Sz2 (by rfl) (by rfl) | exact op_fieldAddr_elt Try.underlying37 rfl Sz2 (by rfl) (by rfl) (by rfl)
      · rfl
      · (try dsimp only [zS, zN, zH, zT]); try exact rfl
      apply al_stepN
      · first | exact op_load_elt Try.underlying2 (by rfl) (by rfl) (by rfl) | exact op_load_ptr Try.underlying2 (by rfl) (by rfl) (by rfl) (by rfl)
      · rfl
      · (try dsimp only [zS, zN, zH, zT]); try exact rfl
      apply al_stepN
      · exact op_neI (by rfl) (by rfl)
      · rfl
      · (try dsimp only [zS, zN, zH, zT]); try exact rfl
      apply al_stepN
      · exact op_assign_tmp (by rfl)
      · rfl
      · (try dsimp only [zS, zN, zH, zT]); try exact rfl
      apply al_end
      · (try dsimp only [zS, zN, zH, zT]); try exact rfl
      refine then_normal ?_
      refine aw_cond rfl (fun hc3 => ?_) (fun hc3 => ?_)
      · skip
        (try simp only [decide_eq_true_eq, decide_eq_false_iff_not, beq_iff_eq, beq_eq_false_iff_ne, Bool.not_eq_true', Bool.not_eq_false', bne_iff_ne, ne_eq, Decidable.not_not, bne_eq_false_iff_eq, List.length_map] at hc3)
        have hi : ¬ i = o.num := hc3
        refine aw_seq ?_
        refine aw_region ?_
        apply al_stepN
        · exact op_move_tmp (by rfl)
        · rfl
        · (try dsimp only [zS, zN, zH, zT]); try exact rfl
        apply al_stepN
        · first | exact op_fieldAddr_ptr Try.underlying37 rfl Sz2 (by rfl) (by rfl) | exact op_fieldAddr_elt Try.underlying37 rfl Sz2 (by rfl) (by rfl) (by rfl)
        · rfl
        · (try dsimp only [zS, zN, zH, zT]); try exact rfl
        apply al_stepN
        · first | exact op_load_elt Try.underlying2 (by rfl) (by rfl) (by rfl) | exact op_load_ptr Try.underlying2 (by rfl) (by rfl) (by rfl) (by rfl)
        · rfl
        · (try dsimp only [zS, zN, zH, zT]); try exact rfl
        apply al_stepN
        · first | exact op_fieldAddr_ptr Try.underlying37 rfl Sz2 (by rfl) (by rfl) | exact op_fieldAddr_elt Try.underlying37 rfl Sz2 (by rfl) (by rfl) (by rfl)
        · rfl
        · (try dsimp only [zS, zN, zH, zT]); try exact rfl
        apply al_stepN
        · first | exact op_load_elt Try.underlying2 (by rfl) (by rfl) (by rfl) | exact op_load_ptr Try.underlying2 (by rfl) (by rfl) (by rfl) (by rfl)
        · rfl
        · (try dsimp only [zS, zN, zH, zT]); try exact rfl
        apply al_stepN
        · exact op_ltI (by rfl) (by rfl)
        · rfl
        · (try dsimp only [zS, zN, zH, zT]); try exact rfl
        apply al_stepN
        · exact op_callV (by rfl) Try.func89 (by rfl) (by rfl) (.tmp (by rfl) .nil) (less_ok _ _)
        · rfl
        · (try dsimp only [zS, zN, zH, zT]); try exact rfl
        apply al_stepN
        · exact op_assign_tmp (by rfl)
        · rfl
        · (try dsimp only [zS, zN, zH, zT]); try exact rfl
        apply al_end
        · (try dsimp only [zS, zN, zH, zT]); try exact rfl
        refine then_normal ?_
        refine aw_ret ?_
        refine inBlock_ret (then_ret ?_)
        refine retPost1 rfl rfl ?_
        exact ⟨by rw [cmp_n ha hb hk hi], rfl⟩
      · skip
        (try simp only [decide_eq_true_eq, decide_eq_false_iff_not, beq_iff_eq, beq_eq_false_iff_ne, Bool.not_eq_true', Bool.not_eq_false', bne_iff_ne, ne_eq, Decidable.not_not, bne_eq_false_iff_eq, List.length_map] at hc3)
        have hi : i = o.num := by simpa using hc3
        refine aw_seq ?_
        refine aw_region ?_
        apply al_stepN
        · first | exact op_fieldAddr_ptr Try.underlying37 rfl Sz9 (by rfl) (by rfl) | exact op_fieldAddr_elt Try.underlying37 rfl Sz9 (by rfl) (by rfl) (by rfl)
        · rfl
        · (try dsimp only [zS, zN, zH, zT]); try exact rfl
        apply al_stepN
        · first | exact op_load_elt Try.underlying9 (by rfl) (by rfl) (by rfl) | exact op_load_ptr Try.underlying9 (by rfl) (by rfl) (by rfl) (by rfl)
        · rfl
        · (try dsimp only [zS, zN, zH, zT]); try exact rfl
        apply al_stepN
        · first | exact op_fieldAddr_ptr Try.underlying37 rfl Sz9 (by rfl) (by rfl) | exact op_fieldAddr_elt Try.underlying37 rfl Sz9 (by rfl) (by rfl) (by rfl)
        · rfl
        · (try dsimp only [zS, zN, zH, zT]); try exact rfl
        apply al_stepN
        · first | exact op_load_elt Try.underlying9 (by rfl) (by rfl) (by rfl) | exact op_load_ptr Try.underlying9 (by rfl) (by rfl) (by rfl) (by rfl)
        · rfl
        · (try dsimp only [zS, zN, zH, zT]); try exact rfl
        apply al_stepN
        · exact op_neS (by rfl) (by rfl)
        · rfl
        · (try dsimp only [zS, zN, zH, zT]); try exact rfl
        apply al_stepN
        · exact op_assign_tmp (by rfl)
        · rfl
        · (try dsimp only [zS, zN, zH, zT]); try exact rfl
        apply al_end
        · (try dsimp only [zS, zN, zH, zT]); try exact rfl
        refine then_normal ?_
        refine aw_cond rfl (fun hc4 => ?_) (fun hc4 => ?_)
        · skip
          (try simp only [decide_eq_true_eq, decide_eq_false_iff_not, beq_iff_eq, beq_eq_false_iff_ne, Bool.not_eq_true', Bool.not_eq_false', bne_iff_ne, ne_eq, Decidable.not_not, bne_eq_false_iff_eq, List.length_map] at hc4)
          have ht : ¬ tx = o.text := hc4
          refine aw_seq ?_
          refine aw_region ?_
          apply al_stepN
          · exact op_move_tmp (by rfl)
          · rfl
          · (try dsimp only [zS, zN, zH, zT]); try exact rfl
          apply al_stepN
          · first | exact op_fieldAddr_ptr Try.underlying37 rfl Sz9 (by rfl) (by rfl) | exact op_fieldAddr_elt Try.underlying37 rfl Sz9 (by rfl) (by rfl) (by rfl)
          · rfl
          · (try dsimp only [zS, zN, zH, zT]); try exact rfl
          apply al_stepN
          · first | exact op_load_elt Try.underlying9 (by rfl) (by rfl) (by rfl) | exact op_load_ptr Try.underlying9 (by rfl) (by rfl) (by rfl) (by rfl)
          · rfl
          · (try dsimp only [zS, zN, zH, zT]); try exact rfl
          apply al_stepN
          · first | exact op_fieldAddr_ptr Try.underlying37 rfl Sz9 (by rfl) (by rfl) | exact op_fieldAddr_elt Try.underlying37 rfl Sz9 (by rfl) (by rfl) (by rfl)
          · rfl
          · (try dsimp only [zS, zN, zH, zT]); try exact rfl
          apply al_stepN
          · first | exact op_load_elt Try.underlying9 (by rfl) (by rfl) (by rfl) | exact op_load_ptr Try.underlying9 (by rfl) (by rfl) (by rfl) (by rfl)
          · rfl
          · (try dsimp only [zS, zN, zH, zT]); try exact rfl
          apply al_stepN
          · exact op_ltS (by rfl) (by rfl)
          · rfl
          · (try dsimp only [zS, zN, zH, zT]); try exact rfl
          apply al_stepN
          · exact op_callV (by rfl) Try.func89 (by rfl) (by rfl) (.tmp (by rfl) .nil) (less_ok _ _)
          · rfl
          · (try dsimp only [zS, zN, zH, zT]); try exact rfl
          apply al_stepN
          · exact op_assign_tmp (by rfl)
          · rfl
          · (try dsimp only [zS, zN, zH, zT]); try exact rfl
          apply al_end
          · (try dsimp only [zS, zN, zH, zT]); try exact rfl
          refine then_normal ?_
          refine aw_ret ?_
          refine inBlock_ret (then_ret ?_)
          refine retPost1 rfl rfl ?_
          exact ⟨by rw [cmp_t ha hb hk ht], rfl⟩
        · skip
          (try simp only [decide_eq_true_eq, decide_eq_false_iff_not, beq_iff_eq, beq_eq_false_iff_ne, Bool.not_eq_true', Bool.not_eq_false', bne_iff_ne, ne_eq, Decidable.not_not, bne_eq_false_iff_eq, List.length_map] at hc4)
          have ht : tx = o.text := by simpa using hc4
          refine aw_skip ?_
          refine inBlock_normal (then_normal ?_)
          apply aw_cutF (fun T H => ∃ (j : Nat), T = (.un :: .un :: (.elt (v6D k y i tx ls fs)) :: (.elt [I o.kind, TF o.yes, .v (.int .i64 o.num), S o.text, .lst 6 (o.list.map vD), .lst 7 (o.fields.map fD)]) :: .un :: (.fn (.func 89) [] []) :: .un :: .un :: .un :: .un :: .un :: .un :: .un :: .un :: .un :: .un :: .un :: .un :: .un :: .un :: .un :: .un :: .un :: .un :: .un :: .un :: .un :: .un :: .un :: .un :: .un :: .un :: .un :: .un :: .un :: .un :: .un :: .un :: .un :: .un :: .un :: .un :: .un :: .un :: .un :: .un :: .un :: .un :: .un :: .un :: .un :: .un :: .un :: .un :: .un :: .un :: .un :: .un :: .un :: .un :: .un :: .un :: .un :: .un :: .un :: .un :: .un :: .un :: .un :: .un :: .un :: .un :: .un :: .un :: .un :: .un :: .un :: .un :: .un :: .un :: .un :: .un :: .un :: .un :: .un :: .un :: .un :: .un :: .un :: .un :: .un :: .un :: .un :: .un :: .un :: .un :: .un :: .un :: .un :: .un :: .un :: .un :: .un :: .un :: .un :: .un :: .un :: .un :: .un :: .un :: .un :: .un :: .un :: .un :: .un :: .un :: .un :: .un :: .un :: .un :: .un :: .un :: .un :: .un :: .un :: .un :: .un :: .un :: .un :: .un :: .un :: .un :: .un :: .un :: .un :: .un :: .un :: .un :: .un :: .un :: .un :: .un :: .un :: .un :: .un :: .un :: .un :: .un :: .un :: .un :: .un :: .un :: .un :: .un :: .un :: .un :: .un :: .un :: .un :: .un :: .un :: .un :: .un :: .un :: .un :: .un :: .un :: .un :: .un :: .un :: .un :: .un :: .un :: .un :: .un :: .un :: .un :: []) ∧ j ≤ ls.length ∧ j ≤ o.list.length ∧ (¬ j < ls.length ∨ ¬ j < o.list.length) ∧ cmpV (.mk k y i tx ls fs) o = orI (cmpL (ls.drop j) (o.list.drop j)) (cmpF fs o.fields) ∧ Hs = H)
          · skip
            refine aw_seq ?_
            refine aw_region ?_
            apply al_stepN
            · exact op_assign_const (by rfl)
            · rfl
            · (try dsimp only [zS, zN, zH, zT]); try exact rfl
            apply al_end
            · (try dsimp only [zS, zN, zH, zT]); try exact rfl
            refine then_normal ?_
            refine aw_block ?_
            apply aw_loopF (fun n T H => ∃ (j : Nat), T = (.un :: .un :: (.elt (v6D k y i tx ls fs)) :: (.elt [I o.kind, TF o.yes, .v (.int .i64 o.num), S o.text, .lst 6 (o.list.map vD), .lst 7 (o.fields.map fD)]) :: .un :: (.fn (.func 89) [] []) :: (.d (I j)) :: .un :: .un :: .un :: .un :: .un :: .un :: .un :: .un :: .un :: .un :: .un :: .un :: .un :: .un :: .un :: .un :: .un :: .un :: .un :: .un :: .un :: .un :: .un :: .un :: .un :: .un :: .un :: .un :: .un :: .un :: .un :: .un :: .un :: .un :: .un :: .un :: .un :: .un :: .un :: .un :: .un :: .un :: .un :: .un :: .un :: .un :: .un :: .un :: .un :: .un :: .un :: .un :: .un :: .un :: .un :: .un :: .un :: .un :: .un :: .un :: .un :: .un :: .un :: .un :: .un :: .un :: .un :: .un :: .un :: .un :: .un :: .un :: .un :: .un :: .un :: .un :: .un :: .un :: .un :: .un :: .un :: .un :: .un :: .un :: .un :: .un :: .un :: .un :: .un :: .un :: .un :: .un :: .un :: .un :: .un :: .un :: .un :: .un :: .un :: .un :: .un :: .un :: .un :: .un :: .un :: .un :: .un :: .un :: .un :: .un :: .un :: .un :: .un :: .un :: .un :: .un :: .un :: .un :: .un :: .un :: .un :: .un :: .un :: .un :: .un :: .un :: .un :: .un :: .un :: .un :: .un :: .un :: .un :: .un :: .un :: .un :: .un :: .un :: .un :: .un :: .un :: .un :: .un :: .un :: .un :: .un :: .un :: .un :: .un :: .un :: .un :: .un :: .un :: .un :: .un :: .un :: .un :: .un :: .un :: .un :: .un :: .un :: .un :: .un :: .un :: .un :: .un :: .un :: .un :: .un :: []) ∧ j ≤ ls.length ∧ j ≤ o.list.length ∧ n = ls.length - j ∧ cmpV (.mk k y i tx ls fs) o = orI (cmpL (ls.drop j) (o.list.drop j)) (cmpF fs o.fields) ∧ Hs = H) (ls.length) (false :: false :: true :: true :: false :: true :: true :: false :: false :: false :: false :: false :: false :: false :: false :: false :: false :: false :: false :: false :: false :: false :: false :: false :: false :: false :: false :: false :: false :: false :: false :: false :: false :: false :: false :: false :: false :: false :: false :: false :: false :: false :: false :: false :: false :: false :: false :: false :: false :: false :: false :: false :: false :: false :: false :: false :: false :: false :: false :: false :: false :: false :: false :: false :: false :: false :: false :: false :: false :: false :: false :: false :: false :: false :: false :: false :: false :: false :: false :: false :: false :: false :: false :: false :: false :: false :: false :: false :: false :: false :: false :: false :: false :: false :: false :: false :: false :: false :: false :: false :: false :: false :: false :: false :: false :: false :: false :: false :: false :: false :: false :: false :: false :: false :: false :: false :: false :: false :: false :: false :: false :: false :: false :: false :: false :: false :: false :: false :: false :: false :: false :: false :: false :: false :: false :: false :: false :: false :: false :: false :: false :: false :: false :: false :: false :: false :: false :: false :: false :: false :: false :: false :: false :: false :: false :: false :: false :: false :: false :: false :: false :: false :: false :: false :: false :: false :: false :: false :: false :: false :: false :: false :: false :: false :: false :: false :: false :: [])
            · (try dsimp only [maskT]); try exact rfl
            · rfl
            · exact ⟨0, rfl, by omega, by omega, rfl, cmp_lf ha hb hk hy hi ht, rfl⟩
            rintro n T H ⟨j, rfl, hj, hj2, rfl, he, rfl⟩
            refine aw_seq ?_
            refine aw_seq ?_
            refine aw_region ?_
            apply al_stepN
            · exact op_move_tmp (by rfl)
            · rfl
            · (try dsimp only [zS, zN, zH, zT]); try exact rfl
            apply al_stepN
            · first | exact op_fieldAddr_ptr Try.underlying37 rfl Sz34 (by rfl) (by rfl) | exact op_fieldAddr_elt Try.underlying37 rfl Sz34 (by rfl) (by rfl) (by rfl)
            · rfl
            · (try dsimp only [zS, zN, zH, zT]); try exact rfl
            apply al_stepN
            · first | exact op_load_elt Try.underlying34 (by rfl) (by rfl) (by rfl) | exact op_load_ptr Try.underlying34 (by rfl) (by rfl) (by rfl) (by rfl)
            · rfl
            · (try dsimp only [zS, zN, zH, zT]); try exact rfl
            apply al_stepN
            · exact op_lenL Try.underlying34 (by first | exact LL.d _ _ | exact LL.own _ _ _ | exact LL.nil _ | assumption)
            · rfl
            · (try dsimp only [zS, zN, zH, zT]); try exact rfl
            apply al_stepN
            · exact op_ltI (by rfl) (by rfl)
            · rfl
            · (try dsimp only [zS, zN, zH, zT]); try exact rfl
            apply al_stepN
            · exact op_move_tmp (by rfl)
            · rfl
            · (try dsimp only [zS, zN, zH, zT]); try exact rfl
            refine al_split 64 rfl (fun hg5 => ?_) (fun hg5 => ?_)
            · skip
              (try simp only [decide_eq_true_eq, decide_eq_false_iff_not, beq_iff_eq, beq_eq_false_iff_ne, Bool.not_eq_true', Bool.not_eq_false', bne_iff_ne, ne_eq, Decidable.not_not, bne_eq_false_iff_eq, List.length_map] at hg5)
              have hlt : j < ls.length := by (try simp only [List.length_map] at hg5); omega
              apply al_normT
              · (try dsimp only [zS, zN, zH, zT]); try exact rfl
              apply al_wantedN
              · rfl
              · rfl
              · rfl
              · exact op_move_tmp (by rfl)
              · (try dsimp only [zS, zN, zH, zT]); try exact rfl
              apply al_wantedN
              · rfl
              · rfl
              · rfl
              · first | exact op_fieldAddr_ptr Try.underlying37 rfl Sz34 (by rfl) (by rfl) | exact op_fieldAddr_elt Try.underlying37 rfl Sz34 (by rfl) (by rfl) (by rfl)
              · (try dsimp only [zS, zN, zH, zT]); try exact rfl
              apply al_wantedN
              · rfl
              · rfl
              · rfl
              · first | exact op_load_elt Try.underlying34 (by rfl) (by rfl) (by rfl) | exact op_load_ptr Try.underlying34 (by rfl) (by rfl) (by rfl) (by rfl)
              · (try dsimp only [zS, zN, zH, zT]); try exact rfl
              apply al_wantedN
              · rfl
              · rfl
              · rfl
              · exact op_lenL Try.underlying34 (by first | exact LL.d _ _ | exact LL.own _ _ _ | exact LL.nil _ | assumption)
              · (try dsimp only [zS, zN, zH, zT]); try exact rfl
              apply al_wantedN
              · rfl
              · rfl
              · rfl
              · exact op_ltI (by rfl) (by rfl)
              · (try dsimp only [zS, zN, zH, zT]); try exact rfl
              apply al_stepN
              · exact op_pick_tt (by rfl) (val_tmp (by rfl))
              · rfl
              · (try dsimp only [zS, zN, zH, zT]); try exact rfl
              apply al_end
              · (try dsimp only [zS, zN, zH, zT]); try exact rfl
              refine then_normal ?_
              refine aw_cond rfl (fun hc6 => ?_) (fun hc6 => ?_)
              · skip
                (try simp only [decide_eq_true_eq, decide_eq_false_iff_not, beq_iff_eq, beq_eq_false_iff_ne, Bool.not_eq_true', Bool.not_eq_false', bne_iff_ne, ne_eq, Decidable.not_not, bne_eq_false_iff_eq, List.length_map] at hc6)
                have hlt2 : j < o.list.length := by (try simp only [List.length_map] at hc6); omega
                obtain ⟨x, hx1⟩ : ∃ x, ls[j]? = some x := ⟨_, List.getElem?_eq_getElem hlt⟩
                obtain ⟨z, hz1⟩ : ∃ x, o.list[j]? = some x := ⟨_, List.getElem?_eq_getElem hlt2⟩
                refine aw_skip ?_
                refine then_normal ?_
                refine aw_seq ?_
                refine aw_block ?_
                refine aw_seq ?_
                refine aw_draw [0, 0, 0, 0, 0, 0, 0, 0, 0, 0, 0, 0] mixed (by kernel_rfl) ?_
                apply drun0
                · intro H; first | exact op_fieldAddr_ptr Try.underlying37 rfl Sz34 (by rfl) (by rfl) | exact op_fieldAddr_elt Try.underlying37 rfl Sz34 (by rfl) (by rfl) (by rfl)
                · rfl
                apply drun_normT
                · (try dsimp only [zS, zN, zH, zT]); try exact rfl
                apply drun0
                · intro H; first | exact op_load_elt Try.underlying34 (by rfl) (by rfl) (by rfl) | exact op_load_ptr Try.underlying34 (by rfl) (by rfl) (by rfl) (by rfl)
                · rfl
                apply drun_normT
                · (try dsimp only [zS, zN, zH, zT]); try exact rfl
                apply drun0
                · intro H; exact op_move_tmp (by rfl)
                · rfl
                apply drun_normT
                · (try dsimp only [zS, zN, zH, zT]); try exact rfl
                apply drun0
                · intro H; exact op_indexAddr (z := vD x) (cs := [I x.kind, TF x.yes, .v (.int .i64 x.num), S x.text, .lst 6 (x.list.map vD), .lst 7 (x.fields.map fD)]) Try.underlying34 Sz37 (LL.d _ _) (by rfl) (by omega) (by rw [List.getElem?_map, show ((j : Nat) : Int).toNat = j from rfl, hx1]; rfl) (vD_cells x)
                · rfl
                apply drun_normT
                · (try dsimp only [zS, zN, zH, zT]); try exact rfl
                apply drun0
                · intro H; exact op_load_elts (ds := vC x) Try.underlying37 (by rfl) Sz37 (by rfl) (Nat.le_of_ble_eq_true rfl) (by rw [vC_eq]; rfl)
                · rfl
                apply drun_normT
                · (try dsimp only [zS, zN, zH, zT]); try exact rfl
                apply drun0
                · intro H; first | exact op_fieldAddr_ptr Try.underlying37 rfl Sz34 (by rfl) (by rfl) | exact op_fieldAddr_elt Try.underlying37 rfl Sz34 (by rfl) (by rfl) (by rfl)
                · rfl
                apply drun_normT
                · (try dsimp only [zS, zN, zH, zT]); try exact rfl
                apply drun0
                · intro H; first | exact op_load_elt Try.underlying34 (by rfl) (by rfl) (by rfl) | exact op_load_ptr Try.underlying34 (by rfl) (by rfl) (by rfl) (by rfl)
                · rfl
                apply drun_normT
                · (try dsimp only [zS, zN, zH, zT]); try exact rfl
                apply drun0
                · intro H; exact op_move_tmp (by rfl)
                · rfl
                apply drun_normT
                · (try dsimp only [zS, zN, zH, zT]); try exact rfl
                apply drun0
                · intro H; exact op_indexAddr (z := vD z) (cs := [I z.kind, TF z.yes, .v (.int .i64 z.num), S z.text, .lst 6 (z.list.map vD), .lst 7 (z.fields.map fD)]) Try.underlying34 Sz37 (LL.d _ _) (by rfl) (by omega) (by rw [List.getElem?_map, show ((j : Nat) : Int).toNat = j from rfl, hz1]; rfl) (vD_cells z)
                · rfl
                apply drun_normT
                · (try dsimp only [zS, zN, zH, zT]); try exact rfl
                apply drun0
                · intro H; exact op_load_elts (ds := vC z) Try.underlying37 (by rfl) Sz37 (by rfl) (Nat.le_of_ble_eq_true rfl) (by rw [vC_eq]; rfl)
                · rfl
                apply drun_normT
                · (try dsimp only [zS, zN, zH, zT]); try exact rfl
                apply drun0
                · intro H; exact op_callF Try.func52 (by rfl) (by rfl) (.tmp (by rfl) (.tmp (by rfl) .nil)) (ihL x (List.mem_of_getElem? hx1) z (List.mem_of_getElem? hz1) _)
                · rfl
                apply drun_normT
                · (try dsimp only [zS, zN, zH, zT]); try exact rfl
                apply drun0
                · intro H; exact op_assign_tmp (by rfl)
                · rfl
                apply drun_normT
                · (try dsimp only [zS, zN, zH, zT]); try exact rfl
                apply drun_end
                · (try dsimp only [zS, zN, zH, zT]); try exact rfl
                refine then_normal ?_
                refine aw_seq ?_
                refine aw_region ?_
                apply al_stepN
                · exact op_move_tmp (by rfl)
                · rfl
                · (try dsimp only [zS, zN, zH, zT]); try exact rfl
                apply al_stepN
                · exact op_neI (by rfl) (by rfl)
                · rfl
                · (try dsimp only [zS, zN, zH, zT]); try exact rfl
                apply al_end
                · (try dsimp only [zS, zN, zH, zT]); try exact rfl
                refine then_normal ?_
                refine aw_cond rfl (fun hc7 => ?_) (fun hc7 => ?_)
                · skip
                  (try simp only [decide_eq_true_eq, decide_eq_false_iff_not, beq_iff_eq, beq_eq_false_iff_ne, Bool.not_eq_true', Bool.not_eq_false', bne_iff_ne, ne_eq, Decidable.not_not, bne_eq_false_iff_eq, List.length_map] at hc7)
                  have hc0 : ¬ cmpV x z = 0 := hc7
                  refine aw_seq ?_
                  refine aw_region ?_
                  apply al_stepN
                  · exact op_move_tmp (by rfl)
                  · rfl
                  · (try dsimp only [zS, zN, zH, zT]); try exact rfl
                  apply al_stepN
                  · exact op_assign_tmp (by rfl)
                  · rfl
                  · (try dsimp only [zS, zN, zH, zT]); try exact rfl
                  apply al_end
                  · (try dsimp only [zS, zN, zH, zT]); try exact rfl
                  refine then_normal ?_
                  refine aw_ret ?_
                  refine inBlock_ret (then_ret (again_ret (inBlock_ret (cut_ret ?_))))
                  refine retPost1 rfl rfl ?_
                  exact ⟨by rw [he, cmpL_at hx1 hz1 hc0, orI_l hc0], rfl⟩
                · skip
                  (try simp only [decide_eq_true_eq, decide_eq_false_iff_not, beq_iff_eq, beq_eq_false_iff_ne, Bool.not_eq_true', Bool.not_eq_false', bne_iff_ne, ne_eq, Decidable.not_not, bne_eq_false_iff_eq, List.length_map] at hc7)
                  have hc0 : cmpV x z = 0 := by simpa using hc7
                  refine aw_skip ?_
                  refine inBlock_normal (then_normal ?_)
                  refine aw_region ?_
                  apply al_stepN
                  · exact op_move_tmp (by rfl)
                  · rfl
                  · (try dsimp only [zS, zN, zH, zT]); try exact rfl
                  apply al_stepN
                  · first | exact op_add (by rfl) (by rfl) (wrap_i64 ⟨by omega, by omega⟩) | exact op_add (by rfl) (by rfl) (by rfl)
                  · rfl
                  · (try dsimp only [zS, zN, zH, zT]); try exact rfl
                  apply al_stepN
                  · exact op_assign_tmp (by rfl)
                  · rfl
                  · (try dsimp only [zS, zN, zH, zT]); try exact rfl
                  apply al_end
                  · (try dsimp only [zS, zN, zH, zT]); try exact rfl
                  apply again_to (ls.length - (j + 1)) (false :: false :: true :: true :: false :: true :: true :: false :: false :: false :: false :: false :: false :: false :: false :: false :: false :: false :: false :: false :: false :: false :: false :: false :: false :: false :: false :: false :: false :: false :: false :: false :: false :: false :: false :: false :: false :: false :: false :: false :: false :: false :: false :: false :: false :: false :: false :: false :: false :: false :: false :: false :: false :: false :: false :: false :: false :: false :: false :: false :: false :: false :: false :: false :: false :: false :: false :: false :: false :: false :: false :: false :: false :: false :: false :: false :: false :: false :: false :: false :: false :: false :: false :: false :: false :: false :: false :: false :: false :: false :: false :: false :: false :: false :: false :: false :: false :: false :: false :: false :: false :: false :: false :: false :: false :: false :: false :: false :: false :: false :: false :: false :: false :: false :: false :: false :: false :: false :: false :: false :: false :: false :: false :: false :: false :: false :: false :: false :: false :: false :: false :: false :: false :: false :: false :: false :: false :: false :: false :: false :: false :: false :: false :: false :: false :: false :: false :: false :: false :: false :: false :: false :: false :: false :: false :: false :: false :: false :: false :: false :: false :: false :: false :: false :: false :: false :: false :: false :: false :: false :: false :: false :: false :: false :: false :: false :: false :: [])
                  · (try dsimp only [maskT]); try exact rfl
                  · rfl
                  · omega
                  exact ⟨j + 1, rfl, by omega, by omega, rfl, by rw [he, cmpL_step hx1 hz1 hc0], rfl⟩
              · skip
                (try simp only [decide_eq_true_eq, decide_eq_false_iff_not, beq_iff_eq, beq_eq_false_iff_ne, Bool.not_eq_true', Bool.not_eq_false', bne_iff_ne, ne_eq, Decidable.not_not, bne_eq_false_iff_eq, List.length_map] at hc6)
                have hout : ¬ j < ls.length ∨ ¬ j < o.list.length := by (try simp only [List.length_map] at hc6); omega
                refine aw_exit ?_
                refine then_exit (again_exit (inBlock_here ?_))
                apply cut_to (false :: false :: true :: true :: false :: true :: false :: false :: false :: false :: false :: false :: false :: false :: false :: false :: false :: false :: false :: false :: false :: false :: false :: false :: false :: false :: false :: false :: false :: false :: false :: false :: false :: false :: false :: false :: false :: false :: false :: false :: false :: false :: false :: false :: false :: false :: false :: false :: false :: false :: false :: false :: false :: false :: false :: false :: false :: false :: false :: false :: false :: false :: false :: false :: false :: false :: false :: false :: false :: false :: false :: false :: false :: false :: false :: false :: false :: false :: false :: false :: false :: false :: false :: false :: false :: false :: false :: false :: false :: false :: false :: false :: false :: false :: false :: false :: false :: false :: false :: false :: false :: false :: false :: false :: false :: false :: false :: false :: false :: false :: false :: false :: false :: false :: false :: false :: false :: false :: false :: false :: false :: false :: false :: false :: false :: false :: false :: false :: false :: false :: false :: false :: false :: false :: false :: false :: false :: false :: false :: false :: false :: false :: false :: false :: false :: false :: false :: false :: false :: false :: false :: false :: false :: false :: false :: false :: false :: false :: false :: false :: false :: false :: false :: false :: false :: false :: false :: false :: false :: false :: false :: false :: false :: false :: false :: false :: false :: [])
                · (try dsimp only [maskT]); try exact rfl
                · rfl
                exact ⟨j, rfl, hj, hj2, hout, he, rfl⟩
            · skip
              (try simp only [decide_eq_true_eq, decide_eq_false_iff_not, beq_iff_eq, beq_eq_false_iff_ne, Bool.not_eq_true', Bool.not_eq_false', bne_iff_ne, ne_eq, Decidable.not_not, bne_eq_false_iff_eq, List.length_map] at hg5)
              have hout : ¬ j < ls.length ∨ ¬ j < o.list.length := by (try simp only [List.length_map] at hg5); omega
              apply al_normT
              · (try dsimp only [zS, zN, zH, zT]); try exact rfl
              refine al_unwanted rfl rfl rfl rfl ?_
              apply al_normT
              · (try dsimp only [zS, zN, zH, zT]); try exact rfl
              refine al_unwanted rfl rfl rfl rfl ?_
              apply al_normT
              · (try dsimp only [zS, zN, zH, zT]); try exact rfl
              refine al_unwanted rfl rfl rfl rfl ?_
              apply al_normT
              · (try dsimp only [zS, zN, zH, zT]); try exact rfl
              refine al_unwanted rfl rfl rfl rfl ?_
              apply al_normT
              · (try dsimp only [zS, zN, zH, zT]); try exact rfl
              refine al_unwanted rfl rfl rfl rfl ?_
              apply al_normT
              · (try dsimp only [zS, zN, zH, zT]); try exact rfl
              apply al_stepN
              · exact op_pick_ff (by rfl) (val_const (by rfl))
              · rfl
              · (try dsimp only [zS, zN, zH, zT]); try exact rfl
              apply al_end
              · (try dsimp only [zS, zN, zH, zT]); try exact rfl
              refine then_normal ?_
              refine aw_cond rfl (fun h => by cases h) (fun _ => ?_)
              refine aw_exit ?_
              refine then_exit (again_exit (inBlock_here ?_))
              apply cut_to (false :: false :: true :: true :: false :: true :: false :: false :: false :: false :: false :: false :: false :: false :: false :: false :: false :: false :: false :: false :: false :: false :: false :: false :: false :: false :: false :: false :: false :: false :: false :: false :: false :: false :: false :: false :: false :: false :: false :: false :: false :: false :: false :: false :: false :: false :: false :: false :: false :: false :: false :: false :: false :: false :: false :: false :: false :: false :: false :: false :: false :: false :: false :: false :: false :: false :: false :: false :: false :: false :: false :: false :: false :: false :: false :: false :: false :: false :: false :: false :: false :: false :: false :: false :: false :: false :: false :: false :: false :: false :: false :: false :: false :: false :: false :: false :: false :: false :: false :: false :: false :: false :: false :: false :: false :: false :: false :: false :: false :: false :: false :: false :: false :: false :: false :: false :: false :: false :: false :: false :: false :: false :: false :: false :: false :: false :: false :: false :: false :: false :: false :: false :: false :: false :: false :: false :: false :: false :: false :: false :: false :: false :: false :: false :: false :: false :: false :: false :: false :: false :: false :: false :: false :: false :: false :: false :: false :: false :: false :: false :: false :: false :: false :: false :: false :: false :: false :: false :: false :: false :: false :: false :: false :: false :: false :: false :: false :: [])
              · (try dsimp only [maskT]); try exact rfl
              · rfl
              exact ⟨j, rfl, hj, hj2, hout, he, rfl⟩
          rintro T H ⟨j, rfl, hj, hj2, hout, he, rfl⟩
          refine aw_seq ?_
          refine aw_seq ?_
          refine aw_region ?_
          apply al_stepN
          · first | exact op_fieldAddr_ptr Try.underlying37 rfl Sz34 (by rfl) (by rfl) | exact op_fieldAddr_elt Try.underlying37 rfl Sz34 (by rfl) (by rfl) (by rfl)
          · rfl
          · (try dsimp only [zS, zN, zH, zT]); try exact rfl
          apply al_stepN
          · first | exact op_load_elt Try.underlying34 (by rfl) (by rfl) (by rfl) | exact op_load_ptr Try.underlying34 (by rfl) (by rfl) (by rfl) (by rfl)
          · rfl
          · (try dsimp only [zS, zN, zH, zT]); try exact rfl
          apply al_stepN
          · exact op_lenL Try.underlying34 (by first | exact LL.d _ _ | exact LL.own _ _ _ | exact LL.nil _ | assumption)
          · rfl
          · (try dsimp only [zS, zN, zH, zT]); try exact rfl
          apply al_stepN
          · first | exact op_fieldAddr_ptr Try.underlying37 rfl Sz34 (by rfl) (by rfl) | exact op_fieldAddr_elt Try.underlying37 rfl Sz34 (by rfl) (by rfl) (by rfl)
          · rfl
          · (try dsimp only [zS, zN, zH, zT]); try exact rfl
          apply al_stepN
          · first | exact op_load_elt Try.underlying34 (by rfl) (by rfl) (by rfl) | exact op_load_ptr Try.underlying34 (by rfl) (by rfl) (by rfl) (by rfl)
          · rfl
          · (try dsimp only [zS, zN, zH, zT]); try exact rfl
          apply al_stepN
          · exact op_lenL Try.underlying34 (by first | exact LL.d _ _ | exact LL.own _ _ _ | exact LL.nil _ | assumption)
          · rfl
          · (try dsimp only [zS, zN, zH, zT]); try exact rfl
          apply al_stepN
          · exact op_neI (by rfl) (by rfl)
          · rfl
          · (try dsimp only [zS, zN, zH, zT]); try exact rfl
          apply al_end
          · (try dsimp only [zS, zN, zH, zT]); try exact rfl
          refine then_normal ?_
          refine aw_cond rfl (fun hc9 => ?_) (fun hc9 => ?_)
          · skip
            (try simp only [decide_eq_true_eq, decide_eq_false_iff_not, beq_iff_eq, beq_eq_false_iff_ne, Bool.not_eq_true', Bool.not_eq_false', bne_iff_ne, ne_eq, Decidable.not_not, bne_eq_false_iff_eq, List.length_map] at hc9)
            have hn : ¬ ls.length = o.list.length := by (try simp only [List.length_map] at hc9); omega
            refine aw_seq ?_
            refine aw_region ?_
            apply al_stepN
            · exact op_move_tmp (by rfl)
            · rfl
            · (try dsimp only [zS, zN, zH, zT]); try exact rfl
            apply al_stepN
            · first | exact op_fieldAddr_ptr Try.underlying37 rfl Sz34 (by rfl) (by rfl) | exact op_fieldAddr_elt Try.underlying37 rfl Sz34 (by rfl) (by rfl) (by rfl)
            · rfl
            · (try dsimp only [zS, zN, zH, zT]); try exact rfl
            apply al_stepN
            · first | exact op_load_elt Try.underlying34 (by rfl) (by rfl) (by rfl) | exact op_load_ptr Try.underlying34 (by rfl) (by rfl) (by rfl) (by rfl)
            · rfl
            · (try dsimp only [zS, zN, zH, zT]); try exact rfl
            apply al_stepN
            · exact op_lenL Try.underlying34 (by first | exact LL.d _ _ | exact LL.own _ _ _ | exact LL.nil _ | assumption)
            · rfl
            · (try dsimp only [zS, zN, zH, zT]); try exact rfl
            apply al_stepN
            · first | exact op_fieldAddr_ptr Try.underlying37 rfl Sz34 (by rfl) (by rfl) | exact op_fieldAddr_elt Try.underlying37 rfl Sz34 (by rfl) (by rfl) (by rfl)
            · rfl
            · (try dsimp only [zS, zN, zH, zT]); try exact rfl
            apply al_stepN
            · first | exact op_load_elt Try.underlying34 (by rfl) (by rfl) (by rfl) | exact op_load_ptr Try.underlying34 (by rfl) (by rfl) (by rfl) (by rfl)
            · rfl
            · (try dsimp only [zS, zN, zH, zT]); try exact rfl
            apply al_stepN
            · exact op_lenL Try.underlying34 (by first | exact LL.d _ _ | exact LL.own _ _ _ | exact LL.nil _ | assumption)
            · rfl
            · (try dsimp only [zS, zN, zH, zT]); try exact rfl
            apply al_stepN
            · exact op_ltI (by rfl) (by rfl)
            · rfl
            · (try dsimp only [zS, zN, zH, zT]); try exact rfl
            apply al_stepN
            · exact op_callV (by rfl) Try.func89 (by rfl) (by rfl) (.tmp (by rfl) .nil) (less_ok _ _)
            · rfl
            · (try dsimp only [zS, zN, zH, zT]); try exact rfl
            apply al_stepN
            · exact op_assign_tmp (by rfl)
            · rfl
            · (try dsimp only [zS, zN, zH, zT]); try exact rfl
            apply al_end
            · (try dsimp only [zS, zN, zH, zT]); try exact rfl
            refine then_normal ?_
            refine aw_ret ?_
            refine then_ret ?_
            refine retPost1 rfl rfl ?_
            exact ⟨by rw [he, cmpL_out hj hj2 hout hn, orI_l (lessI_ne _)]; simp, rfl⟩
          · skip
            (try simp only [decide_eq_true_eq, decide_eq_false_iff_not, beq_iff_eq, beq_eq_false_iff_ne, Bool.not_eq_true', Bool.not_eq_false', bne_iff_ne, ne_eq, Decidable.not_not, bne_eq_false_iff_eq, List.length_map] at hc9)
            have hn : ls.length = o.list.length := by (try simp only [List.length_map] at hc9); omega
            have hel : cmpL (ls.drop j) (o.list.drop j) = 0 := cmpL_eq (by omega) (by omega)
            rw [hel, orI_r] at he
            refine aw_skip ?_
            refine then_normal ?_
            apply aw_cutF (fun T H => ∃ (j : Nat), T = (.un :: .un :: (.elt (v6D k y i tx ls fs)) :: (.elt [I o.kind, TF o.yes, .v (.int .i64 o.num), S o.text, .lst 6 (o.list.map vD), .lst 7 (o.fields.map fD)]) :: .un :: (.fn (.func 89) [] []) :: .un :: .un :: .un :: .un :: .un :: .un :: .un :: .un :: .un :: .un :: .un :: .un :: .un :: .un :: .un :: .un :: .un :: .un :: .un :: .un :: .un :: .un :: .un :: .un :: .un :: .un :: .un :: .un :: .un :: .un :: .un :: .un :: .un :: .un :: .un :: .un :: .un :: .un :: .un :: .un :: .un :: .un :: .un :: .un :: .un :: .un :: .un :: .un :: .un :: .un :: .un :: .un :: .un :: .un :: .un :: .un :: .un :: .un :: .un :: .un :: .un :: .un :: .un :: .un :: .un :: .un :: .un :: .un :: .un :: .un :: .un :: .un :: .un :: .un :: .un :: .un :: .un :: .un :: .un :: .un :: .un :: .un :: .un :: .un :: .un :: .un :: .un :: .un :: .un :: .un :: .un :: .un :: .un :: .un :: .un :: .un :: .un :: .un :: .un :: .un :: .un :: .un :: .un :: .un :: .un :: .un :: .un :: .un :: .un :: .un :: .un :: .un :: .un :: .un :: .un :: .un :: .un :: .un :: .un :: .un :: .un :: .un :: .un :: .un :: .un :: .un :: .un :: .un :: .un :: .un :: .un :: .un :: .un :: .un :: .un :: .un :: .un :: .un :: .un :: .un :: .un :: .un :: .un :: .un :: .un :: .un :: .un :: .un :: .un :: .un :: .un :: .un :: .un :: .un :: .un :: .un :: .un :: .un :: .un :: .un :: .un :: .un :: .un :: .un :: .un :: .un :: .un :: .un :: .un :: .un :: .un :: []) ∧ j ≤ fs.length ∧ j ≤ o.fields.length ∧ (¬ j < fs.length ∨ ¬ j < o.fields.length) ∧ cmpV (.mk k y i tx ls fs) o = cmpF (fs.drop j) (o.fields.drop j) ∧ Hs = H)
            · skip
              refine aw_seq ?_
              refine aw_region ?_
              apply al_stepN
              · exact op_assign_const (by rfl)
              · rfl
              · (try dsimp only [zS, zN, zH, zT]); try exact rfl
              apply al_end
              · (try dsimp only [zS, zN, zH, zT]); try exact rfl
              refine then_normal ?_
              refine aw_block ?_
              apply aw_loopF (fun n T H => ∃ (j : Nat), T = (.un :: .un :: (.elt (v6D k y i tx ls fs)) :: (.elt [I o.kind, TF o.yes, .v (.int .i64 o.num), S o.text, .lst 6 (o.list.map vD), .lst 7 (o.fields.map fD)]) :: .un :: (.fn (.func 89) [] []) :: .un :: .un :: (.d (I j)) :: .un :: .un :: .un :: .un :: .un :: .un :: .un :: .un :: .un :: .un :: .un :: .un :: .un :: .un :: .un :: .un :: .un :: .un :: .un :: .un :: .un :: .un :: .un :: .un :: .un :: .un :: .un :: .un :: .un :: .un :: .un :: .un :: .un :: .un :: .un :: .un :: .un :: .un :: .un :: .un :: .un :: .un :: .un :: .un :: .un :: .un :: .un :: .un :: .un :: .un :: .un :: .un :: .un :: .un :: .un :: .un :: .un :: .un :: .un :: .un :: .un :: .un :: .un :: .un :: .un :: .un :: .un :: .un :: .un :: .un :: .un :: .un :: .un :: .un :: .un :: .un :: .un :: .un :: .un :: .un :: .un :: .un :: .un :: .un :: .un :: .un :: .un :: .un :: .un :: .un :: .un :: .un :: .un :: .un :: .un :: .un :: .un :: .un :: .un :: .un :: .un :: .un :: .un :: .un :: .un :: .un :: .un :: .un :: .un :: .un :: .un :: .un :: .un :: .un :: .un :: .un :: .un :: .un :: .un :: .un :: .un :: .un :: .un :: .un :: .un :: .un :: .un :: .un :: .un :: .un :: .un :: .un :: .un :: .un :: .un :: .un :: .un :: .un :: .un :: .un :: .un :: .un :: .un :: .un :: .un :: .un :: .un :: .un :: .un :: .un :: .un :: .un :: .un :: .un :: .un :: .un :: .un :: .un :: .un :: .un :: .un :: .un :: .un :: .un :: .un :: .un :: .un :: .un :: []) ∧ j ≤ fs.length ∧ j ≤ o.fields.length ∧ n = fs.length - j ∧ cmpV (.mk k y i tx ls fs) o = cmpF (fs.drop j) (o.fields.drop j) ∧ Hs = H) (fs.length) (false :: false :: true :: true :: false :: true :: false :: false :: true :: false :: false :: false :: false :: false :: false :: false :: false :: false :: false :: false :: false :: false :: false :: false :: false :: false :: false :: false :: false :: false :: false :: false :: false :: false :: false :: false :: false :: false :: false :: false :: false :: false :: false :: false :: false :: false :: false :: false :: false :: false :: false :: false :: false :: false :: false :: false :: false :: false :: false :: false :: false :: false :: false :: false :: false :: false :: false :: false :: false :: false :: false :: false :: false :: false :: false :: false :: false :: false :: false :: false :: false :: false :: false :: false :: false :: false :: false :: false :: false :: false :: false :: false :: false :: false :: false :: false :: false :: false :: false :: false :: false :: false :: false :: false :: false :: false :: false :: false :: false :: false :: false :: false :: false :: false :: false :: false :: false :: false :: false :: false :: false :: false :: false :: false :: false :: false :: false :: false :: false :: false :: false :: false :: false :: false :: false :: false :: false :: false :: false :: false :: false :: false :: false :: false :: false :: false :: false :: false :: false :: false :: false :: false :: false :: false :: false :: false :: false :: false :: false :: false :: false :: false :: false :: false :: false :: false :: false :: false :: false :: false :: false :: false :: false :: false :: false :: false :: false :: [])
              · (try dsimp only [maskT]); try exact rfl
              · rfl
              · exact ⟨0, rfl, by omega, by omega, rfl, he, rfl⟩
              rintro n T H ⟨j, rfl, hj, hj2, rfl, he, rfl⟩
              refine aw_seq ?_
              refine aw_seq ?_
              refine aw_region ?_
              apply al_stepN
              · exact op_move_tmp (by rfl)
              · rfl
              · (try dsimp only [zS, zN, zH, zT]); try exact rfl
              apply al_stepN
              · first | exact op_fieldAddr_ptr Try.underlying37 rfl Sz35 (by rfl) (by rfl) | exact op_fieldAddr_elt Try.underlying37 rfl Sz35 (by rfl) (by rfl) (by rfl)
              · rfl
              · (try dsimp only [zS, zN, zH, zT]); try exact rfl
              apply al_stepN
              · first | exact op_load_elt Try.underlying35 (by rfl) (by rfl) (by rfl) | exact op_load_ptr Try.underlying35 (by rfl) (by rfl) (by rfl) (by rfl)
              · rfl
              · (try dsimp only [zS, zN, zH, zT]); try exact rfl
              apply al_stepN
              · exact op_lenL Try.underlying35 (by first | exact LL.d _ _ | exact LL.own _ _ _ | exact LL.nil _ | assumption)
              · rfl
              · (try dsimp only [zS, zN, zH, zT]); try exact rfl
              apply al_stepN
              · exact op_ltI (by rfl) (by rfl)
              · rfl
              · (try dsimp only [zS, zN, zH, zT]); try exact rfl
              apply al_stepN
              · exact op_move_tmp (by rfl)
              · rfl
              · (try dsimp only [zS, zN, zH, zT]); try exact rfl
              refine al_split 108 rfl (fun hg10 => ?_) (fun hg10 => ?_)
              · skip
                (try simp only [decide_eq_true_eq, decide_eq_false_iff_not, beq_iff_eq, beq_eq_false_iff_ne, Bool.not_eq_true', Bool.not_eq_false', bne_iff_ne, ne_eq, Decidable.not_not, bne_eq_false_iff_eq, List.length_map] at hg10)
                have hlt : j < fs.length := by (try simp only [List.length_map] at hg10); omega
                apply al_normT
                · (try dsimp only [zS, zN, zH, zT]); try exact rfl
                apply al_wantedN
                · rfl
                · rfl
                · rfl
                · exact op_move_tmp (by rfl)
                · (try dsimp only [zS, zN, zH, zT]); try exact rfl
                apply al_wantedN
                · rfl
                · rfl
                · rfl
                · first | exact op_fieldAddr_ptr Try.underlying37 rfl Sz35 (by rfl) (by rfl) | exact op_fieldAddr_elt Try.underlying37 rfl Sz35 (by rfl) (by rfl) (by rfl)
                · (try dsimp only [zS, zN, zH, zT]); try exact rfl
                apply al_wantedN
                · rfl
                · rfl
                · rfl
                · first | exact op_load_elt Try.underlying35 (by rfl) (by rfl) (by rfl) | exact op_load_ptr Try.underlying35 (by rfl) (by rfl) (by rfl) (by rfl)
                · (try dsimp only [zS, zN, zH, zT]); try exact rfl
                apply al_wantedN
                · rfl
                · rfl
                · rfl
                · exact op_lenL Try.underlying35 (by first | exact LL.d _ _ | exact LL.own _ _ _ | exact LL.nil _ | assumption)
                · (try dsimp only [zS, zN, zH, zT]); try exact rfl
                apply al_wantedN
                · rfl
                · rfl
                · rfl
                · exact op_ltI (by rfl) (by rfl)
                · (try dsimp only [zS, zN, zH, zT]); try exact rfl
                apply al_stepN
                · exact op_pick_tt (by rfl) (val_tmp (by rfl))
                · rfl
                · (try dsimp only [zS, zN, zH, zT]); try exact rfl
                apply al_end
                · (try dsimp only [zS, zN, zH, zT]); try exact rfl
                refine then_normal ?_
                refine aw_cond rfl (fun hc11 => ?_) (fun hc11 => ?_)
                · skip
                  (try simp only [decide_eq_true_eq, decide_eq_false_iff_not, beq_iff_eq, beq_eq_false_iff_ne, Bool.not_eq_true', Bool.not_eq_false', bne_iff_ne, ne_eq, Decidable.not_not, bne_eq_false_iff_eq, List.length_map] at hc11)
                  have hlt2 : j < o.fields.length := by (try simp only [List.length_map] at hc11); omega
                  obtain ⟨x, hx1⟩ : ∃ x, fs[j]? = some x := ⟨_, List.getElem?_eq_getElem hlt⟩
                  obtain ⟨z, hz1⟩ : ∃ x, o.fields[j]? = some x := ⟨_, List.getElem?_eq_getElem hlt2⟩
                  refine aw_skip ?_
                  refine then_normal ?_
                  refine aw_seq ?_
                  refine aw_block ?_
                  refine aw_seq ?_
                  refine aw_seq ?_
                  refine aw_draw [0, 0, 0, 0, 0, 0, 0, 0, 0, 0, 0, 0, 0] mixed (by kernel_rfl) ?_
                  apply drun0
                  · intro H; first | exact op_fieldAddr_ptr Try.underlying37 rfl Sz35 (by rfl) (by rfl) | exact op_fieldAddr_elt Try.underlying37 rfl Sz35 (by rfl) (by rfl) (by rfl)
                  · rfl
                  apply drun_normT
                  · (try dsimp only [zS, zN, zH, zT]); try exact rfl
                  apply drun0
                  · intro H; first | exact op_load_elt Try.underlying35 (by rfl) (by rfl) (by rfl) | exact op_load_ptr Try.underlying35 (by rfl) (by rfl) (by rfl) (by rfl)
                  · rfl
                  apply drun_normT
                  · (try dsimp only [zS, zN, zH, zT]); try exact rfl
                  apply drun0
                  · intro H; exact op_move_tmp (by rfl)
                  · rfl
                  apply drun_normT
                  · (try dsimp only [zS, zN, zH, zT]); try exact rfl
                  apply drun0
                  · intro H; exact op_indexAddr (z := fD x) (cs := [S x.name, I x.val.kind, TF x.val.yes, .v (.int .i64 x.val.num), S x.val.text, .lst 6 (x.val.list.map vD), .lst 7 (x.val.fields.map fD)]) Try.underlying35 Sz89 (LL.d _ _) (by rfl) (by omega) (by rw [List.getElem?_map, show ((j : Nat) : Int).toNat = j from rfl, hx1]; rfl) (fD_cells7 x)
                  · rfl
                  apply drun_normT
                  · (try dsimp only [zS, zN, zH, zT]); try exact rfl
                  apply drun0
                  · intro H; first | exact op_fieldAddr_ptr Try.underlying89 rfl Sz9 (by rfl) (by rfl) | exact op_fieldAddr_elt Try.underlying89 rfl Sz9 (by rfl) (by rfl) (by rfl)
                  · rfl
                  apply drun_normT
                  · (try dsimp only [zS, zN, zH, zT]); try exact rfl
                  apply drun0
                  · intro H; first | exact op_load_elt Try.underlying9 (by rfl) (by rfl) (by rfl) | exact op_load_ptr Try.underlying9 (by rfl) (by rfl) (by rfl) (by rfl)
                  · rfl
                  apply drun_normT
                  · (try dsimp only [zS, zN, zH, zT]); try exact rfl
                  apply drun0
                  · intro H; first | exact op_fieldAddr_ptr Try.underlying37 rfl Sz35 (by rfl) (by rfl) | exact op_fieldAddr_elt Try.underlying37 rfl Sz35 (by rfl) (by rfl) (by rfl)
                  · rfl
                  apply drun_normT
                  · (try dsimp only [zS, zN, zH, zT]); try exact rfl
                  apply drun0
                  · intro H; first | exact op_load_elt Try.underlying35 (by rfl) (by rfl) (by rfl) | exact op_load_ptr Try.underlying35 (by rfl) (by rfl) (by rfl) (by rfl)
                  · rfl
                  apply drun_normT
                  · (try dsimp only [zS, zN, zH, zT]); try exact rfl
                  apply drun0
                  · intro H; exact op_move_tmp (by rfl)
                  · rfl
                  apply drun_normT
                  · (try dsimp only [zS, zN, zH, zT]); try exact rfl
                  apply drun0
                  · intro H; exact op_indexAddr (z := fD z) (cs := [S z.name, I z.val.kind, TF z.val.yes, .v (.int .i64 z.val.num), S z.val.text, .lst 6 (z.val.list.map vD), .lst 7 (z.val.fields.map fD)]) Try.underlying35 Sz89 (LL.d _ _) (by rfl) (by omega) (by rw [List.getElem?_map, show ((j : Nat) : Int).toNat = j from rfl, hz1]; rfl) (fD_cells7 z)
                  · rfl
                  apply drun_normT
                  · (try dsimp only [zS, zN, zH, zT]); try exact rfl
                  apply drun0
                  · intro H; first | exact op_fieldAddr_ptr Try.underlying89 rfl Sz9 (by rfl) (by rfl) | exact op_fieldAddr_elt Try.underlying89 rfl Sz9 (by rfl) (by rfl) (by rfl)
                  · rfl
                  apply drun_normT
                  · (try dsimp only [zS, zN, zH, zT]); try exact rfl
                  apply drun0
                  · intro H; first | exact op_load_elt Try.underlying9 (by rfl) (by rfl) (by rfl) | exact op_load_ptr Try.underlying9 (by rfl) (by rfl) (by rfl) (by rfl)
                  · rfl
                  apply drun_normT
                  · (try dsimp only [zS, zN, zH, zT]); try exact rfl
                  apply drun0
                  · intro H; exact op_neS (by rfl) (by rfl)
                  · rfl
                  apply drun_normT
                  · (try dsimp only [zS, zN, zH, zT]); try exact rfl
                  apply drun_end
                  · (try dsimp only [zS, zN, zH, zT]); try exact rfl
                  refine then_normal ?_
                  refine aw_cond rfl (fun hc12 => ?_) (fun hc12 => ?_)
                  · skip
                    (try simp only [decide_eq_true_eq, decide_eq_false_iff_not, beq_iff_eq, beq_eq_false_iff_ne, Bool.not_eq_true', Bool.not_eq_false', bne_iff_ne, ne_eq, Decidable.not_not, bne_eq_false_iff_eq, List.length_map] at hc12)
                    have hnm : ¬ x.name = z.name := hc12
                    refine aw_seq ?_
                    refine aw_draw [0, 0, 0, 0, 0, 0, 0, 0, 0, 0, 0, 0, 0, 0, 0, 0] mixed (by kernel_rfl) ?_
                    apply drun0
                    · intro H; exact op_move_tmp (by rfl)
                    · rfl
                    apply drun_normT
                    · (try dsimp only [zS, zN, zH, zT]); try exact rfl
                    apply drun0
                    · intro H; first | exact op_fieldAddr_ptr Try.underlying37 rfl Sz35 (by rfl) (by rfl) | exact op_fieldAddr_elt Try.underlying37 rfl Sz35 (by rfl) (by rfl) (by rfl)
                    · rfl
                    apply drun_normT
                    · (try dsimp only [zS, zN, zH, zT]); try exact rfl
                    apply drun0
                    · intro H; first | exact op_load_elt Try.underlying35 (by rfl) (by rfl) (by rfl) | exact op_load_ptr Try.underlying35 (by rfl) (by rfl) (by rfl) (by rfl)
                    · rfl
                    apply drun_normT
                    · (try dsimp only [zS, zN, zH, zT]); try exact rfl
                    apply drun0
                    · intro H; exact op_move_tmp (by rfl)
                    · rfl
                    apply drun_normT
                    · (try dsimp only [zS, zN, zH, zT]); try exact rfl
                    apply drun0
                    · intro H; exact op_indexAddr (z := fD x) (cs := [S x.name, I x.val.kind, TF x.val.yes, .v (.int .i64 x.val.num), S x.val.text, .lst 6 (x.val.list.map vD), .lst 7 (x.val.fields.map fD)]) Try.underlying35 Sz89 (LL.d _ _) (by rfl) (by omega) (by rw [List.getElem?_map, show ((j : Nat) : Int).toNat = j from rfl, hx1]; rfl) (fD_cells7 x)
                    · rfl
                    apply drun_normT
                    · (try dsimp only [zS, zN, zH, zT]); try exact rfl
                    apply drun0
                    · intro H; first | exact op_fieldAddr_ptr Try.underlying89 rfl Sz9 (by rfl) (by rfl) | exact op_fieldAddr_elt Try.underlying89 rfl Sz9 (by rfl) (by rfl) (by rfl)
                    · rfl
                    apply drun_normT
                    · (try dsimp only [zS, zN, zH, zT]); try exact rfl
                    apply drun0
                    · intro H; first | exact op_load_elt Try.underlying9 (by rfl) (by rfl) (by rfl) | exact op_load_ptr Try.underlying9 (by rfl) (by rfl) (by rfl) (by rfl)
                    · rfl
                    apply drun_normT
                    · (try dsimp only [zS, zN, zH, zT]); try exact rfl
                    apply drun0
                    · intro H; first | exact op_fieldAddr_ptr Try.underlying37 rfl Sz35 (by rfl) (by rfl) | exact op_fieldAddr_elt Try.underlying37 rfl Sz35 (by rfl) (by rfl) (by rfl)
                    · rfl
                    apply drun_normT
                    · (try dsimp only [zS, zN, zH, zT]); try exact rfl
                    apply drun0
                    · intro H; first | exact op_load_elt Try.underlying35 (by rfl) (by rfl) (by rfl) | exact op_load_ptr Try.underlying35 (by rfl) (by rfl) (by rfl) (by rfl)
                    · rfl
                    apply drun_normT
                    · (try dsimp only [zS, zN, zH, zT]); try exact rfl
                    apply drun0
                    · intro H; exact op_move_tmp (by rfl)
                    · rfl
                    apply drun_normT
                    · (try dsimp only [zS, zN, zH, zT]); try exact rfl
                    apply drun0
                    · intro H; exact op_indexAddr (z := fD z) (cs := [S z.name, I z.val.kind, TF z.val.yes, .v (.int .i64 z.val.num), S z.val.text, .lst 6 (z.val.list.map vD), .lst 7 (z.val.fields.map fD)]) Try.underlying35 Sz89 (LL.d _ _) (by rfl) (by omega) (by rw [List.getElem?_map, show ((j : Nat) : Int).toNat = j from rfl, hz1]; rfl) (fD_cells7 z)
                    · rfl
                    apply drun_normT
                    · (try dsimp only [zS, zN, zH, zT]); try exact rfl
                    apply drun0
                    · intro H; first | exact op_fieldAddr_ptr Try.underlying89 rfl Sz9 (by rfl) (by rfl) | exact op_fieldAddr_elt Try.underlying89 rfl Sz9 (by rfl) (by rfl) (by rfl)
                    · rfl
                    apply drun_normT
                    · (try dsimp only [zS, zN, zH, zT]); try exact rfl
                    apply drun0
                    · intro H; first | exact op_load_elt Try.underlying9 (by rfl) (by rfl) (by rfl) | exact op_load_ptr Try.underlying9 (by rfl) (by rfl) (by rfl) (by rfl)
                    · rfl
                    apply drun_normT
                    · (try dsimp only [zS, zN, zH, zT]); try exact rfl
                    apply drun0
                    · intro H; exact op_ltS (by rfl) (by rfl)
                    · rfl
                    apply drun_normT
                    · (try dsimp only [zS, zN, zH, zT]); try exact rfl
                    apply drun0
                    · intro H; exact op_callV (by rfl) Try.func89 (by rfl) (by rfl) (.tmp (by rfl) .nil) (less_ok _ _)
                    · rfl
                    apply drun_normT
                    · (try dsimp only [zS, zN, zH, zT]); try exact rfl
                    apply drun0
                    · intro H; exact op_assign_tmp (by rfl)
                    · rfl
                    apply drun_normT
                    · (try dsimp only [zS, zN, zH, zT]); try exact rfl
                    apply drun_end
                    · (try dsimp only [zS, zN, zH, zT]); try exact rfl
                    refine then_normal ?_
                    refine aw_ret ?_
                    refine then_ret (inBlock_ret (then_ret (again_ret (inBlock_ret (cut_ret ?_)))))
                    refine retPost1 rfl rfl ?_
                    exact ⟨by rw [he, cmpF_at hx1 hz1 (by unfold cmpF1 orI; rw [if_pos (by rw [cb_ne hnm]; exact lessI_ne _), cb_ne hnm]; exact lessI_ne _)]; unfold cmpF1 orI; rw [if_pos (by rw [cb_ne hnm]; exact lessI_ne _), cb_ne hnm], rfl⟩
                  · skip
                    (try simp only [decide_eq_true_eq, decide_eq_false_iff_not, beq_iff_eq, beq_eq_false_iff_ne, Bool.not_eq_true', Bool.not_eq_false', bne_iff_ne, ne_eq, Decidable.not_not, bne_eq_false_iff_eq, List.length_map] at hc12)
                    have hnm : x.name = z.name := by simpa using hc12
                    refine aw_skip ?_
                    refine then_normal ?_
                    refine aw_seq ?_
                    refine aw_draw [0, 0, 0, 0, 0, 0, 0, 0, 0, 0, 0, 0, 0, 0] mixed (by kernel_rfl) ?_
                    apply drun0
                    · intro H; first | exact op_fieldAddr_ptr Try.underlying37 rfl Sz35 (by rfl) (by rfl) | exact op_fieldAddr_elt Try.underlying37 rfl Sz35 (by rfl) (by rfl) (by rfl)
                    · rfl
                    apply drun_normT
                    · (try dsimp only [zS, zN, zH, zT]); try exact rfl
                    apply drun0
                    · intro H; first | exact op_load_elt Try.underlying35 (by rfl) (by rfl) (by rfl) | exact op_load_ptr Try.underlying35 (by rfl) (by rfl) (by rfl) (by rfl)
                    · rfl
                    apply drun_normT
                    · (try dsimp only [zS, zN, zH, zT]); try exact rfl
                    apply drun0
                    · intro H; exact op_move_tmp (by rfl)
                    · rfl
                    apply drun_normT
                    · (try dsimp only [zS, zN, zH, zT]); try exact rfl
                    apply drun0
                    · intro H; exact op_indexAddr (z := fD x) (cs := [S x.name, I x.val.kind, TF x.val.yes, .v (.int .i64 x.val.num), S x.val.text, .lst 6 (x.val.list.map vD), .lst 7 (x.val.fields.map fD)]) Try.underlying35 Sz89 (LL.d _ _) (by rfl) (by omega) (by rw [List.getElem?_map, show ((j : Nat) : Int).toNat = j from rfl, hx1]; rfl) (fD_cells7 x)
                    · rfl
                    apply drun_normT
                    · (try dsimp only [zS, zN, zH, zT]); try exact rfl
                    apply drun0
                    · intro H; first | exact op_fieldAddr_ptr Try.underlying89 rfl Sz37 (by rfl) (by rfl) | exact op_fieldAddr_elt Try.underlying89 rfl Sz37 (by rfl) (by rfl) (by rfl)
                    · rfl
                    apply drun_normT
                    · (try dsimp only [zS, zN, zH, zT]); try exact rfl
                    apply drun0
                    · intro H; exact op_load_elts (ds := vC x.val) Try.underlying37 (by rfl) Sz37 (by rfl) (Nat.le_of_ble_eq_true rfl) (by rw [vC_eq]; rfl)
                    · rfl
                    apply drun_normT
                    · (try dsimp only [zS, zN, zH, zT]); try exact rfl
                    apply drun0
                    · intro H; first | exact op_fieldAddr_ptr Try.underlying37 rfl Sz35 (by rfl) (by rfl) | exact op_fieldAddr_elt Try.underlying37 rfl Sz35 (by rfl) (by rfl) (by rfl)
                    · rfl
                    apply drun_normT
                    · (try dsimp only [zS, zN, zH, zT]); try exact rfl
                    apply drun0
                    · intro H; first | exact op_load_elt Try.underlying35 (by rfl) (by rfl) (by rfl) | exact op_load_ptr Try.underlying35 (by rfl) (by rfl) (by rfl) (by rfl)
                    · rfl
                    apply drun_normT
                    · (try dsimp only [zS, zN, zH, zT]); try exact rfl
                    apply drun0
                    · intro H; exact op_move_tmp (by rfl)
                    · rfl
                    apply drun_normT
                    · (try dsimp only [zS, zN, zH, zT]); try exact rfl
                    apply drun0
                    · intro H; exact op_indexAddr (z := fD z) (cs := [S z.name, I z.val.kind, TF z.val.yes, .v (.int .i64 z.val.num), S z.val.text, .lst 6 (z.val.list.map vD), .lst 7 (z.val.fields.map fD)]) Try.underlying35 Sz89 (LL.d _ _) (by rfl) (by omega) (by rw [List.getElem?_map, show ((j : Nat) : Int).toNat = j from rfl, hz1]; rfl) (fD_cells7 z)
                    · rfl
                    apply drun_normT
                    · (try dsimp only [zS, zN, zH, zT]); try exact rfl
                    apply drun0
                    · intro H; first | exact op_fieldAddr_ptr Try.underlying89 rfl Sz37 (by rfl) (by rfl) | exact op_fieldAddr_elt Try.underlying89 rfl Sz37 (by rfl) (by rfl) (by rfl)
                    · rfl
                    apply drun_normT
                    · (try dsimp only [zS, zN, zH, zT]); try exact rfl
                    apply drun0
                    · intro H; exact op_load_elts (ds := vC z.val) Try.underlying37 (by rfl) Sz37 (by rfl) (Nat.le_of_ble_eq_true rfl) (by rw [vC_eq]; rfl)
                    · rfl
                    apply drun_normT
                    · (try dsimp only [zS, zN, zH, zT]); try exact rfl
                    apply drun0
                    · intro H; exact op_callF Try.func52 (by rfl) (by rfl) (.tmp (by rfl) (.tmp (by rfl) .nil)) (ihF x (List.mem_of_getElem? hx1) z (List.mem_of_getElem? hz1) _)
                    · rfl
                    apply drun_normT
                    · (try dsimp only [zS, zN, zH, zT]); try exact rfl
                    apply drun0
                    · intro H; exact op_assign_tmp (by rfl)
                    · rfl
                    apply drun_normT
                    · (try dsimp only [zS, zN, zH, zT]); try exact rfl
                    apply drun_end
                    · (try dsimp only [zS, zN, zH, zT]); try exact rfl
                    refine then_normal ?_
                    refine aw_seq ?_
                    refine aw_region ?_
                    apply al_stepN
                    · exact op_move_tmp (by rfl)
                    · rfl
                    · (try dsimp only [zS, zN, zH, zT]); try exact rfl
                    apply al_stepN
                    · exact op_neI (by rfl) (by rfl)
                    · rfl
                    · (try dsimp only [zS, zN, zH, zT]); try exact rfl
                    apply al_end
                    · (try dsimp only [zS, zN, zH, zT]); try exact rfl
                    refine then_normal ?_
                    refine aw_cond rfl (fun hc13 => ?_) (fun hc13 => ?_)
                    · skip
                      (try simp only [decide_eq_true_eq, decide_eq_false_iff_not, beq_iff_eq, beq_eq_false_iff_ne, Bool.not_eq_true', Bool.not_eq_false', bne_iff_ne, ne_eq, Decidable.not_not, bne_eq_false_iff_eq, List.length_map] at hc13)
                      have hc0 : ¬ cmpV x.val z.val = 0 := hc13
                      refine aw_seq ?_
                      refine aw_region ?_
                      apply al_stepN
                      · exact op_move_tmp (by rfl)
                      · rfl
                      · (try dsimp only [zS, zN, zH, zT]); try exact rfl
                      apply al_stepN
                      · exact op_assign_tmp (by rfl)
                      · rfl
                      · (try dsimp only [zS, zN, zH, zT]); try exact rfl
                      apply al_end
                      · (try dsimp only [zS, zN, zH, zT]); try exact rfl
                      refine then_normal ?_
                      refine aw_ret ?_
                      refine inBlock_ret (then_ret (again_ret (inBlock_ret (cut_ret ?_))))
                      refine retPost1 rfl rfl ?_
                      exact ⟨by rw [he, cmpF_at hx1 hz1 (by unfold cmpF1 orI; rw [if_neg (by simpa using cb_eq.2 hnm)]; exact hc0)]; unfold cmpF1 orI; rw [if_neg (by simpa using cb_eq.2 hnm)], rfl⟩
                    · skip
                      (try simp only [decide_eq_true_eq, decide_eq_false_iff_not, beq_iff_eq, beq_eq_false_iff_ne, Bool.not_eq_true', Bool.not_eq_false', bne_iff_ne, ne_eq, Decidable.not_not, bne_eq_false_iff_eq, List.length_map] at hc13)
                      have hc0 : cmpV x.val z.val = 0 := by simpa using hc13
                      refine aw_skip ?_
                      refine inBlock_normal (then_normal ?_)
                      refine aw_region ?_
                      apply al_stepN
                      · exact op_move_tmp (by rfl)
                      · rfl
                      · (try dsimp only [zS, zN, zH, zT]); try exact rfl
                      apply al_stepN
                      · first | exact op_add (by rfl) (by rfl) (wrap_i64 ⟨by omega, by omega⟩) | exact op_add (by rfl) (by rfl) (by rfl)
                      · rfl
                      · (try dsimp only [zS, zN, zH, zT]); try exact rfl
                      apply al_stepN
                      · exact op_assign_tmp (by rfl)
                      · rfl
                      · (try dsimp only [zS, zN, zH, zT]); try exact rfl
                      apply al_end
                      · (try dsimp only [zS, zN, zH, zT]); try exact rfl
                      apply again_to (fs.length - (j + 1)) (false :: false :: true :: true :: false :: true :: false :: false :: true :: false :: false :: false :: false :: false :: false :: false :: false :: false :: false :: false :: false :: false :: false :: false :: false :: false :: false :: false :: false :: false :: false :: false :: false :: false :: false :: false :: false :: false :: false :: false :: false :: false :: false :: false :: false :: false :: false :: false :: false :: false :: false :: false :: false :: false :: false :: false :: false :: false :: false :: false :: false :: false :: false :: false :: false :: false :: false :: false :: false :: false :: false :: false :: false :: false :: false :: false :: false :: false :: false :: false :: false :: false :: false :: false :: false :: false :: false :: false :: false :: false :: false :: false :: false :: false :: false :: false :: false :: false :: false :: false :: false :: false :: false :: false :: false :: false :: false :: false :: false :: false :: false :: false :: false :: false :: false :: false :: false :: false :: false :: false :: false :: false :: false :: false :: false :: false :: false :: false :: false :: false :: false :: false :: false :: false :: false :: false :: false :: false :: false :: false :: false :: false :: false :: false :: false :: false :: false :: false :: false :: false :: false :: false :: false :: false :: false :: false :: false :: false :: false :: false :: false :: false :: false :: false :: false :: false :: false :: false :: false :: false :: false :: false :: false :: false :: false :: false :: false :: [])
                      · (try dsimp only [maskT]); try exact rfl
                      · rfl
                      · omega
                      exact ⟨j + 1, rfl, by omega, by omega, rfl, by rw [he, cmpF_step hx1 hz1 (by unfold cmpF1 orI; rw [if_neg (by simpa using cb_eq.2 hnm)]; exact hc0)], rfl⟩
                · skip
                  (try simp only [decide_eq_true_eq, decide_eq_false_iff_not, beq_iff_eq, beq_eq_false_iff_ne, Bool.not_eq_true', Bool.not_eq_false', bne_iff_ne, ne_eq, Decidable.not_not, bne_eq_false_iff_eq, List.length_map] at hc11)
                  have hout : ¬ j < fs.length ∨ ¬ j < o.fields.length := by (try simp only [List.length_map] at hc11); omega
                  refine aw_exit ?_
                  refine then_exit (again_exit (inBlock_here ?_))
                  apply cut_to (false :: false :: true :: true :: false :: true :: false :: false :: false :: false :: false :: false :: false :: false :: false :: false :: false :: false :: false :: false :: false :: false :: false :: false :: false :: false :: false :: false :: false :: false :: false :: false :: false :: false :: false :: false :: false :: false :: false :: false :: false :: false :: false :: false :: false :: false :: false :: false :: false :: false :: false :: false :: false :: false :: false :: false :: false :: false :: false :: false :: false :: false :: false :: false :: false :: false :: false :: false :: false :: false :: false :: false :: false :: false :: false :: false :: false :: false :: false :: false :: false :: false :: false :: false :: false :: false :: false :: false :: false :: false :: false :: false :: false :: false :: false :: false :: false :: false :: false :: false :: false :: false :: false :: false :: false :: false :: false :: false :: false :: false :: false :: false :: false :: false :: false :: false :: false :: false :: false :: false :: false :: false :: false :: false :: false :: false :: false :: false :: false :: false :: false :: false :: false :: false :: false :: false :: false :: false :: false :: false :: false :: false :: false :: false :: false :: false :: false :: false :: false :: false :: false :: false :: false :: false :: false :: false :: false :: false :: false :: false :: false :: false :: false :: false :: false :: false :: false :: false :: false :: false :: false :: false :: false :: false :: false :: false :: false :: [])
                  · (try dsimp only [maskT]); try exact rfl
                  · rfl
                  exact ⟨j, rfl, hj, hj2, hout, he, rfl⟩
              · skip
                (try simp only [decide_eq_true_eq, decide_eq_false_iff_not, beq_iff_eq, beq_eq_false_iff_ne, Bool.not_eq_true', Bool.not_eq_false', bne_iff_ne, ne_eq, Decidable.not_not, bne_eq_false_iff_eq, List.length_map] at hg10)
                have hout : ¬ j < fs.length ∨ ¬ j < o.fields.length := by (try simp only [List.length_map] at hg10); omega
                apply al_normT
                · (try dsimp only [zS, zN, zH, zT]); try exact rfl
                refine al_unwanted rfl rfl rfl rfl ?_
                apply al_normT
                · (try dsimp only [zS, zN, zH, zT]); try exact rfl
                refine al_unwanted rfl rfl rfl rfl ?_
                apply al_normT
                · (try dsimp only [zS, zN, zH, zT]); try exact rfl
                refine al_unwanted rfl rfl rfl rfl ?_
                apply al_normT
                · (try dsimp only [zS, zN, zH, zT]); try exact rfl
                refine al_unwanted rfl rfl rfl rfl ?_
                apply al_normT
                · (try dsimp only [zS, zN, zH, zT]); try exact rfl
                refine al_unwanted rfl rfl rfl rfl ?_
                apply al_normT
                · (try dsimp only [zS, zN, zH, zT]); try exact rfl
                apply al_stepN
                · exact op_pick_ff (by rfl) (val_const (by rfl))
                · rfl
                · (try dsimp only [zS, zN, zH, zT]); try exact rfl
                apply al_end
                · (try dsimp only [zS, zN, zH, zT]); try exact rfl
                refine then_normal ?_
                refine aw_cond rfl (fun h => by cases h) (fun _ => ?_)
                refine aw_exit ?_
                refine then_exit (again_exit (inBlock_here ?_))
                apply cut_to (false :: false :: true :: true :: false :: true :: false :: false :: false :: false :: false :: false :: false :: false :: false :: false :: false :: false :: false :: false :: false :: false :: false :: false :: false :: false :: false :: false :: false :: false :: false :: false :: false :: false :: false :: false :: false :: false :: false :: false :: false :: false :: false :: false :: false :: false :: false :: false :: false :: false :: false :: false :: false :: false :: false :: false :: false :: false :: false :: false :: false :: false :: false :: false :: false :: false :: false :: false :: false :: false :: false :: false :: false :: false :: false :: false :: false :: false :: false :: false :: false :: false :: false :: false :: false :: false :: false :: false :: false :: false :: false :: false :: false :: false :: false :: false :: false :: false :: false :: false :: false :: false :: false :: false :: false :: false :: false :: false :: false :: false :: false :: false :: false :: false :: false :: false :: false :: false :: false :: false :: false :: false :: false :: false :: false :: false :: false :: false :: false :: false :: false :: false :: false :: false :: false :: false :: false :: false :: false :: false :: false :: false :: false :: false :: false :: false :: false :: false :: false :: false :: false :: false :: false :: false :: false :: false :: false :: false :: false :: false :: false :: false :: false :: false :: false :: false :: false :: false :: false :: false :: false :: false :: false :: false :: false :: false :: false :: [])
                · (try dsimp only [maskT]); try exact rfl
                · rfl
                exact ⟨j, rfl, hj, hj2, hout, he, rfl⟩
            rintro T H ⟨j, rfl, hj, hj2, hout, he, rfl⟩
            refine aw_seq ?_
            refine aw_seq ?_
            refine aw_region ?_
            apply al_stepN
            · first | exact op_fieldAddr_ptr Try.underlying37 rfl Sz35 (by rfl) (by rfl) | exact op_fieldAddr_elt Try.underlying37 rfl Sz35 (by rfl) (by rfl) (by rfl)
            · rfl
            · (try dsimp only [zS, zN, zH, zT]); try exact rfl
            apply al_stepN
            · first | exact op_load_elt Try.underlying35 (by rfl) (by rfl) (by rfl) | exact op_load_ptr Try.underlying35 (by rfl) (by rfl) (by rfl) (by rfl)
            · rfl
            · (try dsimp only [zS, zN, zH, zT]); try exact rfl
            apply al_stepN
            · exact op_lenL Try.underlying35 (by first | exact LL.d _ _ | exact LL.own _ _ _ | exact LL.nil _ | assumption)
            · rfl
            · (try dsimp only [zS, zN, zH, zT]); try exact rfl
            apply al_stepN
            · first | exact op_fieldAddr_ptr Try.underlying37 rfl Sz35 (by rfl) (by rfl) | exact op_fieldAddr_elt Try.underlying37 rfl Sz35 (by rfl) (by rfl) (by rfl)
            · rfl
            · (try dsimp only [zS, zN, zH, zT]); try exact rfl
            apply al_stepN
            · first | exact op_load_elt Try.underlying35 (by rfl) (by rfl) (by rfl) | exact op_load_ptr Try.underlying35 (by rfl) (by rfl) (by rfl) (by rfl)
            · rfl
            · (try dsimp only [zS, zN, zH, zT]); try exact rfl
            apply al_stepN
            · exact op_lenL Try.underlying35 (by first | exact LL.d _ _ | exact LL.own _ _ _ | exact LL.nil _ | assumption)
            · rfl
            · (try dsimp only [zS, zN, zH, zT]); try exact rfl
            apply al_stepN
            · exact op_neI (by rfl) (by rfl)
            · rfl
            · (try dsimp only [zS, zN, zH, zT]); try exact rfl
            apply al_end
            · (try dsimp only [zS, zN, zH, zT]); try exact rfl
            refine then_normal ?_
            refine aw_cond rfl (fun hc15 => ?_) (fun hc15 => ?_)
            · skip
              (try simp only [decide_eq_true_eq, decide_eq_false_iff_not, beq_iff_eq, beq_eq_false_iff_ne, Bool.not_eq_true', Bool.not_eq_false', bne_iff_ne, ne_eq, Decidable.not_not, bne_eq_false_iff_eq, List.length_map] at hc15)
              have hn2 : ¬ fs.length = o.fields.length := by (try simp only [List.length_map] at hc15); omega
              refine aw_seq ?_
              refine aw_region ?_
              apply al_stepN
              · exact op_move_tmp (by rfl)
              · rfl
              · (try dsimp only [zS, zN, zH, zT]); try exact rfl
              apply al_stepN
              · first | exact op_fieldAddr_ptr Try.underlying37 rfl Sz35 (by rfl) (by rfl) | exact op_fieldAddr_elt Try.underlying37 rfl Sz35 (by rfl) (by rfl) (by rfl)
              · rfl
              · (try dsimp only [zS, zN, zH, zT]); try exact rfl
              apply al_stepN
              · first | exact op_load_elt Try.underlying35 (by rfl) (by rfl) (by rfl) | exact op_load_ptr Try.underlying35 (by rfl) (by rfl) (by rfl) (by rfl)
              · rfl
              · (try dsimp only [zS, zN, zH, zT]); try exact rfl
              apply al_stepN
              · exact op_lenL Try.underlying35 (by first | exact LL.d _ _ | exact LL.own _ _ _ | exact LL.nil _ | assumption)
              · rfl
              · (try dsimp only [zS, zN, zH, zT]); try exact rfl
              apply al_stepN
              · first | exact op_fieldAddr_ptr Try.underlying37 rfl Sz35 (by rfl) (by rfl) | exact op_fieldAddr_elt Try.underlying37 rfl Sz35 (by rfl) (by rfl) (by rfl)
              · rfl
              · (try dsimp only [zS, zN, zH, zT]); try exact rfl
              apply al_stepN
              · first | exact op_load_elt Try.underlying35 (by rfl) (by rfl) (by rfl) | exact op_load_ptr Try.underlying35 (by rfl) (by rfl) (by rfl) (by rfl)
              · rfl
              · (try dsimp only [zS, zN, zH, zT]); try exact rfl
              apply al_stepN
              · exact op_lenL Try.underlying35 (by first | exact LL.d _ _ | exact LL.own _ _ _ | exact LL.nil _ | assumption)
              · rfl
              · (try dsimp only [zS, zN, zH, zT]); try exact rfl
              apply al_stepN
              · exact op_ltI (by rfl) (by rfl)
              · rfl
              · (try dsimp only [zS, zN, zH, zT]); try exact rfl
              apply al_stepN
              · exact op_callV (by rfl) Try.func89 (by rfl) (by rfl) (.tmp (by rfl) .nil) (less_ok _ _)
              · rfl
              · (try dsimp only [zS, zN, zH, zT]); try exact rfl
              apply al_stepN
              · exact op_assign_tmp (by rfl)
              · rfl
              · (try dsimp only [zS, zN, zH, zT]); try exact rfl
              apply al_end
              · (try dsimp only [zS, zN, zH, zT]); try exact rfl
              refine then_normal ?_
              refine aw_ret ?_
              refine then_ret ?_
              refine retPost1 rfl rfl ?_
              exact ⟨by rw [he, cmpF_out hj hj2 hout hn2]; simp, rfl⟩
            · skip
              (try simp only [decide_eq_true_eq, decide_eq_false_iff_not, beq_iff_eq, beq_eq_false_iff_ne, Bool.not_eq_true', Bool.not_eq_false', bne_iff_ne, ne_eq, Decidable.not_not, bne_eq_false_iff_eq, List.length_map] at hc15)
              have hn2 : fs.length = o.fields.length := by (try simp only [List.length_map] at hc15); omega
              refine aw_skip ?_
              refine then_normal ?_
              refine aw_seq ?_
              refine aw_region ?_
              apply al_stepN
              · exact op_assign_const (by rfl)
              · rfl
              · (try dsimp only [zS, zN, zH, zT]); try exact rfl
              apply al_end
              · (try dsimp only [zS, zN, zH, zT]); try exact rfl
              refine then_normal ?_
              refine aw_ret ?_
              refine retPost1 rfl rfl ?_
              exact ⟨by rw [he, cmpF_eq (by omega) (by omega)]; rfl, rfl⟩
theorem order_ok : ∀ (d : Nat) (v o : V), rightV d v = true → rightV d o = true → SmallV v → SmallV o → ∀ Hs : HS, ACalls Try.prog 52 [.d (.agg (vC v)), .d (.agg (vC o))] Hs (Ret (.d (I (cmpV v o))) Hs)
  | 0, v, o, h, _, _, _, _ => by simp [rightV] at h
  | d + 1, v, o, hv, ho, sv, so, Hs => by
    have rv := right_only hv
    have ro := right_only ho
    obtain ⟨k, y, i, tx, ls, fs, rfl⟩ : ∃ k y n t l fs, v = .mk k y n t l fs := ⟨_, _, _, _, _, _, v.eta⟩
    rw [v6D_eq]
    exact order_step Hs k y i tx ls fs o sv.ll sv.fl rv.1 ro.1 (fun x hx z hz Hs => order_ok d x z (rv.2.2.1 x hx) (ro.2.2.1 z hz) (sv.l x hx) (so.l z hz) Hs) (fun x hx z hz Hs => order_ok d x.val z.val (rv.2.1 x hx) (ro.2.1 z hz) (sv.f x hx) (so.f z hz) Hs)
end Go.Proofs.Ytadkehaagkjbhaa
