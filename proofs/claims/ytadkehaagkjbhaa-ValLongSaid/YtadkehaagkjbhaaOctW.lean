/- What the functions of layer 1 come to. -/
import Derived.Test.YtadkehaagkjbhaaFacts
import Derived.Test.YtadkehaagkjbhaaOctAV
import Derived.KernelRfl
namespace Go.Proofs.Ytadkehaagkjbhaa
open Go.AV Go.AV.Ord Go.AV.Oct
set_option linter.unusedVariables false
set_option linter.unusedSimpArgs false
/- A reader fails. -/
set_option maxRecDepth 100000 in
theorem fail_ok (H : HS) (id : Nat) (x y : AV) (hb : H.blks[id]? = some ⟨150, [x, y], false⟩) : ACalls Try.prog 93 [.ptr id 0] H (Ret (.tup []) (H.setB id (RB 150 ([], true)))) := by
  refine acalls_of_aw Try.func93 rfl ?_
  refine aw_start (T' := [.ptr id 0, .un, .un, .un, .un, .un, .un, .un]) rfl ?_
  refine aw_region ?_
  apply al_stepN
  · exact op_move_tmp (by rfl)
  · rfl
  · (try dsimp only [zS, zN, zH, zT]); try exact rfl
  apply al_stepN
  · exact op_move_tmp (by rfl)
  · rfl
  · (try dsimp only [zS, zN, zH, zT]); try exact rfl
  apply al_stepN
  · first | exact op_nilCheck_ptr (by rfl) | exact op_nilCheck_elt (by rfl)
  · rfl
  · (try dsimp only [zS, zN, zH, zT]); try exact rfl
  apply al_stepN
  · first | exact op_fieldAddr_ptr Try.underlying150 rfl Sz4 (by rfl) (by rfl) | exact op_fieldAddr_elt Try.underlying150 rfl Sz4 (by rfl) (by rfl) (by rfl)
  · rfl
  · (try dsimp only [zS, zN, zH, zT]); try exact rfl
  apply al_stepN
  · exact op_storeB (vs := [.d (TF true)]) (b' := ⟨150, [x, .d (TF true)], false⟩) (H' := H.setB id ⟨150, [x, .d (TF true)], false⟩) Sz4 (by rfl) hb (by intro h; cases h) (by rfl) (by rfl) (Nat.le_of_ble_eq_true rfl) (by simp [AV.one, DV.one, TF, S, I, BY]) (by rfl) (by rfl) rfl
  · rfl
  · (try dsimp only [zS, zN, zH, zT]); try exact rfl
  apply al_stepN
  · first | exact op_nilCheck_ptr (by rfl) | exact op_nilCheck_elt (by rfl)
  · rfl
  · (try dsimp only [zS, zN, zH, zT]); try exact rfl
  apply al_stepN
  · first | exact op_fieldAddr_ptr Try.underlying150 rfl Sz9 (by rfl) (by rfl) | exact op_fieldAddr_elt Try.underlying150 rfl Sz9 (by rfl) (by rfl) (by rfl)
  · rfl
  · (try dsimp only [zS, zN, zH, zT]); try exact rfl
  apply al_stepN
  · exact op_storeB (vs := [.d (S [])]) (b' := ⟨150, [.d (S []), .d (TF true)], false⟩) (H' := H.setB id ⟨150, [.d (S []), .d (TF true)], false⟩) Sz9 (by rfl) (setB_at hb) (by intro h; cases h) (by rfl) (by rfl) (Nat.le_of_ble_eq_true rfl) (by simp [AV.one, DV.one, TF, S, I, BY]) (by rfl) (by rfl) setB_setB
  · rfl
  · (try dsimp only [zS, zN, zH, zT]); try exact rfl
  apply al_end
  · (try dsimp only [zS, zN, zH, zT]); try exact rfl
  refine retPost0 (by first | exact .inl rfl | exact .inr rfl) rfl ?_
  exact ⟨rfl, rfl⟩
/- A reader reads a number. -/
set_option maxRecDepth 100000 in
theorem num_ok (Hs : HS) (id : Nat) (s : List UInt8) (bad : Bool) (most : Int) (hb : Hs.blks[id]? = some (RB 150 (s, bad))) (hm : most ≤ 9223372036854775807) : ACalls Try.prog 56 [.ptr id 0, .d (I most)] Hs (Ret (.d (I (rNum most (s, bad)).1)) (Hs.setB id (RB 150 (rNum most (s, bad)).2))) := by
  have hb : Hs.blks[id]? = some ⟨150, [.d (S s), .d (TF bad)], false⟩ := hb
  refine acalls_of_aw Try.func56 rfl ?_
  refine aw_start (T' := ((.ptr id 0) :: (.d (I most)) :: .un :: .un :: .un :: .un :: .un :: .un :: .un :: .un :: .un :: .un :: .un :: .un :: .un :: .un :: .un :: .un :: .un :: .un :: .un :: .un :: .un :: .un :: .un :: .un :: .un :: .un :: .un :: .un :: .un :: .un :: .un :: .un :: .un :: .un :: .un :: .un :: .un :: .un :: .un :: .un :: .un :: .un :: .un :: .un :: .un :: .un :: .un :: .un :: .un :: .un :: .un :: .un :: .un :: .un :: .un :: .un :: .un :: .un :: .un :: .un :: .un :: .un :: .un :: .un :: .un :: .un :: .un :: .un :: .un :: .un :: .un :: .un :: .un :: .un :: .un :: .un :: .un :: .un :: .un :: .un :: .un :: .un :: .un :: .un :: .un :: .un :: .un :: .un :: .un :: .un :: .un :: .un :: .un :: .un :: .un :: .un :: .un :: .un :: .un :: .un :: .un :: .un :: .un :: .un :: .un :: [])) rfl ?_
  refine aw_seq ?_
  refine aw_region ?_
  apply al_stepN
  · exact op_assign_const (by rfl)
  · rfl
  · (try dsimp only [zS, zN, zH, zT]); try exact rfl
  apply al_end
  · (try dsimp only [zS, zN, zH, zT]); try exact rfl
  refine then_normal ?_
  refine aw_seq ?_
  refine aw_seq ?_
  refine aw_region ?_
  apply al_stepN
  · exact op_move_tmp (by rfl)
  · rfl
  · (try dsimp only [zS, zN, zH, zT]); try exact rfl
  apply al_stepN
  · exact op_ptr_nil Try.underlying91 (by rfl) (by rfl)
  · rfl
  · (try dsimp only [zS, zN, zH, zT]); try exact rfl
  apply al_stepN
  · exact op_move_tmp (by rfl)
  · rfl
  · (try dsimp only [zS, zN, zH, zT]); try exact rfl
  apply al_wantedN
  · rfl
  · rfl
  · rfl
  · exact op_move_tmp (by rfl)
  · (try dsimp only [zS, zN, zH, zT]); try exact rfl
  apply al_wantedN
  · rfl
  · rfl
  · rfl
  · first | exact op_nilCheck_ptr (by rfl) | exact op_nilCheck_elt (by rfl)
  · (try dsimp only [zS, zN, zH, zT]); try exact rfl
  apply al_wantedN
  · rfl
  · rfl
  · rfl
  · first | exact op_fieldAddr_ptr Try.underlying150 rfl Sz4 (by rfl) (by rfl) | exact op_fieldAddr_elt Try.underlying150 rfl Sz4 (by rfl) (by rfl) (by rfl)
  · (try dsimp only [zS, zN, zH, zT]); try exact rfl
  apply al_wantedN
  · rfl
  · rfl
  · rfl
  · first | exact op_load_elt Try.underlying4 (by rfl) (by rfl) (by rfl) | exact op_load_ptr Try.underlying4 (by rfl) (by rfl) (by first | exact hb | exact setB_at hb) (by rfl)
  · (try dsimp only [zS, zN, zH, zT]); try exact rfl
  apply al_stepN
  · exact op_pick_ff (by rfl) (val_tmp (by rfl))
  · rfl
  · (try dsimp only [zS, zN, zH, zT]); try exact rfl
  apply al_end
  · (try dsimp only [zS, zN, zH, zT]); try exact rfl
  refine then_normal ?_
  refine aw_cond rfl (fun hc1 => ?_) (fun hc1 => ?_)
  · skip
    (try simp only [decide_eq_true_eq, decide_eq_false_iff_not, beq_iff_eq, beq_eq_false_iff_ne, Bool.not_eq_true', Bool.not_eq_false', bne_iff_ne, ne_eq, Decidable.not_not, bne_eq_false_iff_eq, List.length_map] at hc1)
    have hbad : bad = true := hc1
    subst hbad
    refine aw_seq ?_
    refine aw_region ?_
    apply al_stepN
    · exact op_assign_const (by rfl)
    · rfl
    · (try dsimp only [zS, zN, zH, zT]); try exact rfl
    apply al_end
    · (try dsimp only [zS, zN, zH, zT]); try exact rfl
    refine then_normal ?_
    refine aw_ret ?_
    refine then_ret ?_
    refine retPost1 rfl rfl ?_
    rw [rNum_bad]; exact ⟨rfl, (setB_self hb).symm⟩
  · skip
    (try simp only [decide_eq_true_eq, decide_eq_false_iff_not, beq_iff_eq, beq_eq_false_iff_ne, Bool.not_eq_true', Bool.not_eq_false', bne_iff_ne, ne_eq, Decidable.not_not, bne_eq_false_iff_eq, List.length_map] at hc1)
    have hbad : bad = false := hc1
    subst hbad
    refine aw_skip ?_
    refine then_normal ?_
    refine aw_seq ?_
    apply aw_cutF (fun T H => ∃ (u : Unit), T = ((.ptr id 0) :: (.d (I most)) :: .un :: .un :: .un :: .un :: .un :: .un :: .un :: .un :: .un :: .un :: .un :: .un :: .un :: .un :: .un :: .un :: .un :: .un :: .un :: .un :: .un :: .un :: .un :: .un :: .un :: .un :: .un :: .un :: .un :: .un :: .un :: .un :: .un :: .un :: .un :: .un :: .un :: .un :: .un :: .un :: .un :: .un :: .un :: .un :: .un :: .un :: .un :: .un :: .un :: .un :: .un :: .un :: .un :: .un :: .un :: .un :: .un :: .un :: (.d (TF (badN s))) :: .un :: .un :: .un :: .un :: .un :: .un :: .un :: .un :: .un :: .un :: .un :: .un :: .un :: .un :: .un :: .un :: .un :: .un :: .un :: .un :: .un :: .un :: .un :: .un :: .un :: .un :: .un :: .un :: .un :: .un :: .un :: .un :: .un :: .un :: .un :: .un :: .un :: .un :: .un :: .un :: .un :: .un :: .un :: .un :: .un :: .un :: []) ∧ Hs = H)
    · skip
      refine aw_draw [0, 0, 0, 1, 0, 0, 0, 0, 0, 1, 0, 0, 0, 0, 0, 0, 0, 1, 0, 0, 0, 0, 1, 0, 0, 0, 0, 0, 0, 0, 0, 0, 1, 0, 0, 0, 0, 0, 0, 1, 0, 0, 0, 0] mixed (by kernel_rfl) ?_
      apply drun0
      · intro H; exact op_move_tmp (by rfl)
      · rfl
      apply drun_normT
      · (try dsimp only [zS, zN, zH, zT]); try exact rfl
      apply drun0
      · intro H; first | exact op_nilCheck_ptr (by rfl) | exact op_nilCheck_elt (by rfl)
      · rfl
      apply drun_normT
      · (try dsimp only [zS, zN, zH, zT]); try exact rfl
      apply drun0
      · intro H; first | exact op_fieldAddr_ptr Try.underlying150 rfl Sz9 (by rfl) (by rfl) | exact op_fieldAddr_elt Try.underlying150 rfl Sz9 (by rfl) (by rfl) (by rfl)
      · rfl
      apply drun_normT
      · (try dsimp only [zS, zN, zH, zT]); try exact rfl
      apply drun1
      · first | exact op_load_elt Try.underlying9 (by rfl) (by rfl) (by rfl) | exact op_load_ptr Try.underlying9 (by rfl) (by rfl) (by first | exact hb | exact setB_at hb) (by rfl)
      · rfl
      apply drun_normT
      · (try dsimp only [zS, zN, zH, zT]); try exact rfl
      apply drun0
      · intro H; exact op_eqS (by rfl) (by rfl)
      · rfl
      apply drun_normT
      · (try dsimp only [zS, zN, zH, zT]); try exact rfl
      apply drun0
      · intro H; exact op_move_tmp (by rfl)
      · rfl
      apply drun_normT
      · (try dsimp only [zS, zN, zH, zT]); try exact rfl
      refine drun_split 22 rfl (fun hg2 => ?_) (fun hg2 => ?_)
      · skip
        (try simp only [decide_eq_true_eq, decide_eq_false_iff_not, beq_iff_eq, beq_eq_false_iff_ne, Bool.not_eq_true', Bool.not_eq_false', bne_iff_ne, ne_eq, Decidable.not_not, bne_eq_false_iff_eq, List.length_map] at hg2)
        have hs0 : s = [] := hg2
        subst hs0
        apply drun_normT
        · (try dsimp only [zS, zN, zH, zT]); try exact rfl
        refine drunU rfl rfl rfl rfl ?_
        apply drun_normT
        · (try dsimp only [zS, zN, zH, zT]); try exact rfl
        refine drunU rfl rfl rfl rfl ?_
        apply drun_normT
        · (try dsimp only [zS, zN, zH, zT]); try exact rfl
        refine drunU rfl rfl rfl rfl ?_
        apply drun_normT
        · (try dsimp only [zS, zN, zH, zT]); try exact rfl
        refine drunU rfl rfl rfl rfl ?_
        apply drun_normT
        · (try dsimp only [zS, zN, zH, zT]); try exact rfl
        refine drunU rfl rfl rfl rfl ?_
        apply drun_normT
        · (try dsimp only [zS, zN, zH, zT]); try exact rfl
        refine drunU rfl rfl rfl rfl ?_
        apply drun_normT
        · (try dsimp only [zS, zN, zH, zT]); try exact rfl
        apply drun0
        · intro H; exact op_pick_tt (by rfl) (val_const (by rfl))
        · rfl
        apply drun_normT
        · (try dsimp only [zS, zN, zH, zT]); try exact rfl
        apply drun0
        · intro H; exact op_move_tmp (by rfl)
        · rfl
        apply drun_normT
        · (try dsimp only [zS, zN, zH, zT]); try exact rfl
        refine drunU rfl rfl rfl rfl ?_
        apply drun_normT
        · (try dsimp only [zS, zN, zH, zT]); try exact rfl
        refine drunU rfl rfl rfl rfl ?_
        apply drun_normT
        · (try dsimp only [zS, zN, zH, zT]); try exact rfl
        refine drunU rfl rfl rfl rfl ?_
        apply drun_normT
        · (try dsimp only [zS, zN, zH, zT]); try exact rfl
        refine drunU rfl rfl rfl rfl ?_
        apply drun_normT
        · (try dsimp only [zS, zN, zH, zT]); try exact rfl
        refine drunU rfl rfl rfl rfl ?_
        apply drun_normT
        · (try dsimp only [zS, zN, zH, zT]); try exact rfl
        refine drunU rfl rfl rfl rfl ?_
        apply drun_normT
        · (try dsimp only [zS, zN, zH, zT]); try exact rfl
        refine drunU rfl rfl rfl rfl ?_
        apply drun_normT
        · (try dsimp only [zS, zN, zH, zT]); try exact rfl
        refine drunU rfl rfl rfl rfl ?_
        apply drun_normT
        · (try dsimp only [zS, zN, zH, zT]); try exact rfl
        refine drunU rfl rfl rfl rfl ?_
        apply drun_normT
        · (try dsimp only [zS, zN, zH, zT]); try exact rfl
        refine drunU rfl rfl rfl rfl ?_
        apply drun_normT
        · (try dsimp only [zS, zN, zH, zT]); try exact rfl
        refine drunU rfl rfl rfl rfl ?_
        apply drun_normT
        · (try dsimp only [zS, zN, zH, zT]); try exact rfl
        refine drunU rfl rfl rfl rfl ?_
        apply drun_normT
        · (try dsimp only [zS, zN, zH, zT]); try exact rfl
        refine drunU rfl rfl rfl rfl ?_
        apply drun_normT
        · (try dsimp only [zS, zN, zH, zT]); try exact rfl
        apply drun0
        · intro H; exact op_pick_tt (by rfl) (val_const (by rfl))
        · rfl
        apply drun_normT
        · (try dsimp only [zS, zN, zH, zT]); try exact rfl
        apply drun0
        · intro H; exact op_move_tmp (by rfl)
        · rfl
        apply drun_normT
        · (try dsimp only [zS, zN, zH, zT]); try exact rfl
        refine drunU rfl rfl rfl rfl ?_
        apply drun_normT
        · (try dsimp only [zS, zN, zH, zT]); try exact rfl
        refine drunU rfl rfl rfl rfl ?_
        apply drun_normT
        · (try dsimp only [zS, zN, zH, zT]); try exact rfl
        refine drunU rfl rfl rfl rfl ?_
        apply drun_normT
        · (try dsimp only [zS, zN, zH, zT]); try exact rfl
        refine drunU rfl rfl rfl rfl ?_
        apply drun_normT
        · (try dsimp only [zS, zN, zH, zT]); try exact rfl
        refine drunU rfl rfl rfl rfl ?_
        apply drun_normT
        · (try dsimp only [zS, zN, zH, zT]); try exact rfl
        refine drunU rfl rfl rfl rfl ?_
        apply drun_normT
        · (try dsimp only [zS, zN, zH, zT]); try exact rfl
        refine drunU rfl rfl rfl rfl ?_
        apply drun_normT
        · (try dsimp only [zS, zN, zH, zT]); try exact rfl
        refine drunU0 rfl rfl rfl ?_
        apply drun_normT
        · (try dsimp only [zS, zN, zH, zT]); try exact rfl
        refine drunU0 rfl rfl rfl ?_
        apply drun_normT
        · (try dsimp only [zS, zN, zH, zT]); try exact rfl
        refine drunU0 rfl rfl rfl ?_
        apply drun_normT
        · (try dsimp only [zS, zN, zH, zT]); try exact rfl
        refine drunU0 rfl rfl rfl ?_
        apply drun_normT
        · (try dsimp only [zS, zN, zH, zT]); try exact rfl
        refine drunU0 rfl rfl rfl ?_
        apply drun_normT
        · (try dsimp only [zS, zN, zH, zT]); try exact rfl
        refine drunU0 rfl rfl rfl ?_
        apply drun_normT
        · (try dsimp only [zS, zN, zH, zT]); try exact rfl
        refine drunU rfl rfl rfl rfl ?_
        apply drun_normT
        · (try dsimp only [zS, zN, zH, zT]); try exact rfl
        apply drun0
        · intro H; exact op_pick_tt (by rfl) (val_const (by rfl))
        · rfl
        apply drun_normT
        · (try dsimp only [zS, zN, zH, zT]); try exact rfl
        apply drun_end
        · (try dsimp only [zS, zN, zH, zT]); try exact rfl
        apply cut_to (true :: true :: false :: false :: false :: false :: false :: false :: false :: false :: false :: false :: false :: false :: false :: false :: false :: false :: false :: false :: false :: false :: false :: false :: false :: false :: false :: false :: false :: false :: false :: false :: false :: false :: false :: false :: false :: false :: false :: false :: false :: false :: false :: false :: false :: false :: false :: false :: false :: false :: false :: false :: false :: false :: false :: false :: false :: false :: false :: false :: true :: false :: false :: false :: false :: false :: false :: false :: false :: false :: false :: false :: false :: false :: false :: false :: false :: false :: false :: false :: false :: false :: false :: false :: false :: false :: false :: false :: false :: false :: false :: false :: false :: false :: false :: false :: false :: false :: false :: false :: false :: false :: false :: false :: false :: false :: false :: [])
        · (try dsimp only [maskT]); try exact rfl
        · rfl
        exact ⟨(), by rfl, rfl⟩
      · skip
        (try simp only [decide_eq_true_eq, decide_eq_false_iff_not, beq_iff_eq, beq_eq_false_iff_ne, Bool.not_eq_true', Bool.not_eq_false', bne_iff_ne, ne_eq, Decidable.not_not, bne_eq_false_iff_eq, List.length_map] at hg2)
        obtain ⟨c, r, rfl⟩ := List.exists_cons_of_ne_nil hg2
        have hcl := c.toNat_lt
        apply drun_normT
        · (try dsimp only [zS, zN, zH, zT]); try exact rfl
        apply drun0w
        · rfl
        · rfl
        · rfl
        · intro H; exact op_move_tmp (by rfl)
        apply drun_normT
        · (try dsimp only [zS, zN, zH, zT]); try exact rfl
        apply drun0w
        · rfl
        · rfl
        · rfl
        · intro H; first | exact op_nilCheck_ptr (by rfl) | exact op_nilCheck_elt (by rfl)
        apply drun_normT
        · (try dsimp only [zS, zN, zH, zT]); try exact rfl
        apply drun0w
        · rfl
        · rfl
        · rfl
        · intro H; first | exact op_fieldAddr_ptr Try.underlying150 rfl Sz9 (by rfl) (by rfl) | exact op_fieldAddr_elt Try.underlying150 rfl Sz9 (by rfl) (by rfl) (by rfl)
        apply drun_normT
        · (try dsimp only [zS, zN, zH, zT]); try exact rfl
        apply drun1w
        · rfl
        · rfl
        · rfl
        · first | exact op_load_elt Try.underlying9 (by rfl) (by rfl) (by rfl) | exact op_load_ptr Try.underlying9 (by rfl) (by rfl) (by first | exact hb | exact setB_at hb) (by rfl)
        apply drun_normT
        · (try dsimp only [zS, zN, zH, zT]); try exact rfl
        apply drun0w
        · rfl
        · rfl
        · rfl
        · intro H; exact op_indexS Try.underlying9 (by rfl) (by rfl) (by decide) (show (c :: r)[(0 : Int).toNat]? = some c by rfl)
        apply drun_normT
        · (try dsimp only [zS, zN, zH, zT]); try exact rfl
        apply drun0w
        · rfl
        · rfl
        · rfl
        · intro H; exact op_gtI (by rfl) (by rfl)
        apply drun_normT
        · (try dsimp only [zS, zN, zH, zT]); try exact rfl
        apply drun0
        · intro H; exact op_pick_ff (by rfl) (val_tmp (by rfl))
        · rfl
        apply drun_normT
        · (try dsimp only [zS, zN, zH, zT]); try exact rfl
        apply drun0
        · intro H; exact op_move_tmp (by rfl)
        · rfl
        apply drun_normT
        · (try dsimp only [zS, zN, zH, zT]); try exact rfl
        refine drun_split 30 rfl (fun hg3 => ?_) (fun hg3 => ?_)
        · skip
          (try simp only [decide_eq_true_eq, decide_eq_false_iff_not, beq_iff_eq, beq_eq_false_iff_ne, Bool.not_eq_true', Bool.not_eq_false', bne_iff_ne, ne_eq, Decidable.not_not, bne_eq_false_iff_eq, List.length_map] at hg3)
          have h8 : 8 < (c.toNat : Int) := hg3
          apply drun_normT
          · (try dsimp only [zS, zN, zH, zT]); try exact rfl
          refine drunU rfl rfl rfl rfl ?_
          apply drun_normT
          · (try dsimp only [zS, zN, zH, zT]); try exact rfl
          refine drunU rfl rfl rfl rfl ?_
          apply drun_normT
          · (try dsimp only [zS, zN, zH, zT]); try exact rfl
          refine drunU rfl rfl rfl rfl ?_
          apply drun_normT
          · (try dsimp only [zS, zN, zH, zT]); try exact rfl
          refine drunU rfl rfl rfl rfl ?_
          apply drun_normT
          · (try dsimp only [zS, zN, zH, zT]); try exact rfl
          refine drunU rfl rfl rfl rfl ?_
          apply drun_normT
          · (try dsimp only [zS, zN, zH, zT]); try exact rfl
          refine drunU rfl rfl rfl rfl ?_
          apply drun_normT
          · (try dsimp only [zS, zN, zH, zT]); try exact rfl
          refine drunU rfl rfl rfl rfl ?_
          apply drun_normT
          · (try dsimp only [zS, zN, zH, zT]); try exact rfl
          refine drunU rfl rfl rfl rfl ?_
          apply drun_normT
          · (try dsimp only [zS, zN, zH, zT]); try exact rfl
          refine drunU rfl rfl rfl rfl ?_
          apply drun_normT
          · (try dsimp only [zS, zN, zH, zT]); try exact rfl
          refine drunU rfl rfl rfl rfl ?_
          apply drun_normT
          · (try dsimp only [zS, zN, zH, zT]); try exact rfl
          refine drunU rfl rfl rfl rfl ?_
          apply drun_normT
          · (try dsimp only [zS, zN, zH, zT]); try exact rfl
          refine drunU rfl rfl rfl rfl ?_
          apply drun_normT
          · (try dsimp only [zS, zN, zH, zT]); try exact rfl
          refine drunU rfl rfl rfl rfl ?_
          apply drun_normT
          · (try dsimp only [zS, zN, zH, zT]); try exact rfl
          apply drun0
          · intro H; exact op_pick_tt (by rfl) (val_const (by rfl))
          · rfl
          apply drun_normT
          · (try dsimp only [zS, zN, zH, zT]); try exact rfl
          apply drun0
          · intro H; exact op_move_tmp (by rfl)
          · rfl
          apply drun_normT
          · (try dsimp only [zS, zN, zH, zT]); try exact rfl
          refine drunU rfl rfl rfl rfl ?_
          apply drun_normT
          · (try dsimp only [zS, zN, zH, zT]); try exact rfl
          refine drunU rfl rfl rfl rfl ?_
          apply drun_normT
          · (try dsimp only [zS, zN, zH, zT]); try exact rfl
          refine drunU rfl rfl rfl rfl ?_
          apply drun_normT
          · (try dsimp only [zS, zN, zH, zT]); try exact rfl
          refine drunU rfl rfl rfl rfl ?_
          apply drun_normT
          · (try dsimp only [zS, zN, zH, zT]); try exact rfl
          refine drunU rfl rfl rfl rfl ?_
          apply drun_normT
          · (try dsimp only [zS, zN, zH, zT]); try exact rfl
          refine drunU rfl rfl rfl rfl ?_
          apply drun_normT
          · (try dsimp only [zS, zN, zH, zT]); try exact rfl
          refine drunU rfl rfl rfl rfl ?_
          apply drun_normT
          · (try dsimp only [zS, zN, zH, zT]); try exact rfl
          refine drunU0 rfl rfl rfl ?_
          apply drun_normT
          · (try dsimp only [zS, zN, zH, zT]); try exact rfl
          refine drunU0 rfl rfl rfl ?_
          apply drun_normT
          · (try dsimp only [zS, zN, zH, zT]); try exact rfl
          refine drunU0 rfl rfl rfl ?_
          apply drun_normT
          · (try dsimp only [zS, zN, zH, zT]); try exact rfl
          refine drunU0 rfl rfl rfl ?_
          apply drun_normT
          · (try dsimp only [zS, zN, zH, zT]); try exact rfl
          refine drunU0 rfl rfl rfl ?_
          apply drun_normT
          · (try dsimp only [zS, zN, zH, zT]); try exact rfl
          refine drunU0 rfl rfl rfl ?_
          apply drun_normT
          · (try dsimp only [zS, zN, zH, zT]); try exact rfl
          refine drunU rfl rfl rfl rfl ?_
          apply drun_normT
          · (try dsimp only [zS, zN, zH, zT]); try exact rfl
          apply drun0
          · intro H; exact op_pick_tt (by rfl) (val_const (by rfl))
          · rfl
          apply drun_normT
          · (try dsimp only [zS, zN, zH, zT]); try exact rfl
          apply drun_end
          · (try dsimp only [zS, zN, zH, zT]); try exact rfl
          apply cut_to (true :: true :: false :: false :: false :: false :: false :: false :: false :: false :: false :: false :: false :: false :: false :: false :: false :: false :: false :: false :: false :: false :: false :: false :: false :: false :: false :: false :: false :: false :: false :: false :: false :: false :: false :: false :: false :: false :: false :: false :: false :: false :: false :: false :: false :: false :: false :: false :: false :: false :: false :: false :: false :: false :: false :: false :: false :: false :: false :: false :: true :: false :: false :: false :: false :: false :: false :: false :: false :: false :: false :: false :: false :: false :: false :: false :: false :: false :: false :: false :: false :: false :: false :: false :: false :: false :: false :: false :: false :: false :: false :: false :: false :: false :: false :: false :: false :: false :: false :: false :: false :: false :: false :: false :: false :: false :: false :: [])
          · (try dsimp only [maskT]); try exact rfl
          · rfl
          exact ⟨(), by (rw [badN_big h8]) <;> rfl, rfl⟩
        · skip
          (try simp only [decide_eq_true_eq, decide_eq_false_iff_not, beq_iff_eq, beq_eq_false_iff_ne, Bool.not_eq_true', Bool.not_eq_false', bne_iff_ne, ne_eq, Decidable.not_not, bne_eq_false_iff_eq, List.length_map] at hg3)
          have h8 : ¬ 8 < (c.toNat : Int) := hg3
          apply drun_normT
          · (try dsimp only [zS, zN, zH, zT]); try exact rfl
          apply drun0w
          · rfl
          · rfl
          · rfl
          · intro H; exact op_move_tmp (by rfl)
          apply drun_normT
          · (try dsimp only [zS, zN, zH, zT]); try exact rfl
          apply drun0w
          · rfl
          · rfl
          · rfl
          · intro H; first | exact op_nilCheck_ptr (by rfl) | exact op_nilCheck_elt (by rfl)
          apply drun_normT
          · (try dsimp only [zS, zN, zH, zT]); try exact rfl
          apply drun0w
          · rfl
          · rfl
          · rfl
          · intro H; first | exact op_fieldAddr_ptr Try.underlying150 rfl Sz9 (by rfl) (by rfl) | exact op_fieldAddr_elt Try.underlying150 rfl Sz9 (by rfl) (by rfl) (by rfl)
          apply drun_normT
          · (try dsimp only [zS, zN, zH, zT]); try exact rfl
          apply drun1w
          · rfl
          · rfl
          · rfl
          · first | exact op_load_elt Try.underlying9 (by rfl) (by rfl) (by rfl) | exact op_load_ptr Try.underlying9 (by rfl) (by rfl) (by first | exact hb | exact setB_at hb) (by rfl)
          apply drun_normT
          · (try dsimp only [zS, zN, zH, zT]); try exact rfl
          apply drun0w
          · rfl
          · rfl
          · rfl
          · intro H; exact op_lenS Try.underlying9 (by rfl)
          apply drun_normT
          · (try dsimp only [zS, zN, zH, zT]); try exact rfl
          apply drun0w
          · rfl
          · rfl
          · rfl
          · intro H; exact op_move_tmp (by rfl)
          apply drun_normT
          · (try dsimp only [zS, zN, zH, zT]); try exact rfl
          apply drun0w
          · rfl
          · rfl
          · rfl
          · intro H; first | exact op_nilCheck_ptr (by rfl) | exact op_nilCheck_elt (by rfl)
          apply drun_normT
          · (try dsimp only [zS, zN, zH, zT]); try exact rfl
          apply drun0w
          · rfl
          · rfl
          · rfl
          · intro H; first | exact op_fieldAddr_ptr Try.underlying150 rfl Sz9 (by rfl) (by rfl) | exact op_fieldAddr_elt Try.underlying150 rfl Sz9 (by rfl) (by rfl) (by rfl)
          apply drun_normT
          · (try dsimp only [zS, zN, zH, zT]); try exact rfl
          apply drun1w
          · rfl
          · rfl
          · rfl
          · first | exact op_load_elt Try.underlying9 (by rfl) (by rfl) (by rfl) | exact op_load_ptr Try.underlying9 (by rfl) (by rfl) (by first | exact hb | exact setB_at hb) (by rfl)
          apply drun_normT
          · (try dsimp only [zS, zN, zH, zT]); try exact rfl
          apply drun0w
          · rfl
          · rfl
          · rfl
          · intro H; exact op_indexS Try.underlying9 (by rfl) (by rfl) (by decide) (show (c :: r)[(0 : Int).toNat]? = some c by rfl)
          apply drun_normT
          · (try dsimp only [zS, zN, zH, zT]); try exact rfl
          apply drun0w
          · rfl
          · rfl
          · rfl
          · intro H; first | exact op_convI (by rw [Try.underlying5]; rfl) Try.underlying3 (by rfl) (wrap_i64 ⟨by omega, by omega⟩) | exact op_convI (by rw [Try.underlying5]; rfl) Try.underlying3 (by rfl) (by rfl)
          apply drun_normT
          · (try dsimp only [zS, zN, zH, zT]); try exact rfl
          apply drun0w
          · rfl
          · rfl
          · rfl
          · intro H; first | exact op_add (by rfl) (by rfl) (wrap_i64 ⟨by omega, by omega⟩) | exact op_add (by rfl) (by rfl) (by rfl)
          apply drun_normT
          · (try dsimp only [zS, zN, zH, zT]); try exact rfl
          apply drun0w
          · rfl
          · rfl
          · rfl
          · intro H; exact op_ltI (by rfl) (by rfl)
          apply drun_normT
          · (try dsimp only [zS, zN, zH, zT]); try exact rfl
          apply drun0
          · intro H; exact op_pick_ff (by rfl) (val_tmp (by rfl))
          · rfl
          apply drun_normT
          · (try dsimp only [zS, zN, zH, zT]); try exact rfl
          apply drun0
          · intro H; exact op_move_tmp (by rfl)
          · rfl
          apply drun_normT
          · (try dsimp only [zS, zN, zH, zT]); try exact rfl
          refine drun_split 45 rfl (fun hg4 => ?_) (fun hg4 => ?_)
          · skip
            (try simp only [decide_eq_true_eq, decide_eq_false_iff_not, beq_iff_eq, beq_eq_false_iff_ne, Bool.not_eq_true', Bool.not_eq_false', bne_iff_ne, ne_eq, Decidable.not_not, bne_eq_false_iff_eq, List.length_map] at hg4)
            have hsh : (((c :: r).length : Nat) : Int) < 1 + (c.toNat : Int) := hg4
            apply drun_normT
            · (try dsimp only [zS, zN, zH, zT]); try exact rfl
            refine drunU rfl rfl rfl rfl ?_
            apply drun_normT
            · (try dsimp only [zS, zN, zH, zT]); try exact rfl
            refine drunU rfl rfl rfl rfl ?_
            apply drun_normT
            · (try dsimp only [zS, zN, zH, zT]); try exact rfl
            refine drunU rfl rfl rfl rfl ?_
            apply drun_normT
            · (try dsimp only [zS, zN, zH, zT]); try exact rfl
            refine drunU rfl rfl rfl rfl ?_
            apply drun_normT
            · (try dsimp only [zS, zN, zH, zT]); try exact rfl
            refine drunU rfl rfl rfl rfl ?_
            apply drun_normT
            · (try dsimp only [zS, zN, zH, zT]); try exact rfl
            refine drunU rfl rfl rfl rfl ?_
            apply drun_normT
            · (try dsimp only [zS, zN, zH, zT]); try exact rfl
            refine drunU rfl rfl rfl rfl ?_
            apply drun_normT
            · (try dsimp only [zS, zN, zH, zT]); try exact rfl
            refine drunU0 rfl rfl rfl ?_
            apply drun_normT
            · (try dsimp only [zS, zN, zH, zT]); try exact rfl
            refine drunU0 rfl rfl rfl ?_
            apply drun_normT
            · (try dsimp only [zS, zN, zH, zT]); try exact rfl
            refine drunU0 rfl rfl rfl ?_
            apply drun_normT
            · (try dsimp only [zS, zN, zH, zT]); try exact rfl
            refine drunU0 rfl rfl rfl ?_
            apply drun_normT
            · (try dsimp only [zS, zN, zH, zT]); try exact rfl
            refine drunU0 rfl rfl rfl ?_
            apply drun_normT
            · (try dsimp only [zS, zN, zH, zT]); try exact rfl
            refine drunU0 rfl rfl rfl ?_
            apply drun_normT
            · (try dsimp only [zS, zN, zH, zT]); try exact rfl
            refine drunU rfl rfl rfl rfl ?_
            apply drun_normT
            · (try dsimp only [zS, zN, zH, zT]); try exact rfl
            apply drun0
            · intro H; exact op_pick_tt (by rfl) (val_const (by rfl))
            · rfl
            apply drun_normT
            · (try dsimp only [zS, zN, zH, zT]); try exact rfl
            apply drun_end
            · (try dsimp only [zS, zN, zH, zT]); try exact rfl
            apply cut_to (true :: true :: false :: false :: false :: false :: false :: false :: false :: false :: false :: false :: false :: false :: false :: false :: false :: false :: false :: false :: false :: false :: false :: false :: false :: false :: false :: false :: false :: false :: false :: false :: false :: false :: false :: false :: false :: false :: false :: false :: false :: false :: false :: false :: false :: false :: false :: false :: false :: false :: false :: false :: false :: false :: false :: false :: false :: false :: false :: false :: true :: false :: false :: false :: false :: false :: false :: false :: false :: false :: false :: false :: false :: false :: false :: false :: false :: false :: false :: false :: false :: false :: false :: false :: false :: false :: false :: false :: false :: false :: false :: false :: false :: false :: false :: false :: false :: false :: false :: false :: false :: false :: false :: false :: false :: false :: false :: [])
            · (try dsimp only [maskT]); try exact rfl
            · rfl
            exact ⟨(), by (rw [badN_short hsh]) <;> rfl, rfl⟩
          · skip
            (try simp only [decide_eq_true_eq, decide_eq_false_iff_not, beq_iff_eq, beq_eq_false_iff_ne, Bool.not_eq_true', Bool.not_eq_false', bne_iff_ne, ne_eq, Decidable.not_not, bne_eq_false_iff_eq, List.length_map] at hg4)
            have hsh : ¬ (((c :: r).length : Nat) : Int) < 1 + (c.toNat : Int) := hg4
            apply drun_normT
            · (try dsimp only [zS, zN, zH, zT]); try exact rfl
            apply drun0w
            · rfl
            · rfl
            · rfl
            · intro H; exact op_move_tmp (by rfl)
            apply drun_normT
            · (try dsimp only [zS, zN, zH, zT]); try exact rfl
            apply drun0w
            · rfl
            · rfl
            · rfl
            · intro H; first | exact op_nilCheck_ptr (by rfl) | exact op_nilCheck_elt (by rfl)
            apply drun_normT
            · (try dsimp only [zS, zN, zH, zT]); try exact rfl
            apply drun0w
            · rfl
            · rfl
            · rfl
            · intro H; first | exact op_fieldAddr_ptr Try.underlying150 rfl Sz9 (by rfl) (by rfl) | exact op_fieldAddr_elt Try.underlying150 rfl Sz9 (by rfl) (by rfl) (by rfl)
            apply drun_normT
            · (try dsimp only [zS, zN, zH, zT]); try exact rfl
            apply drun1w
            · rfl
            · rfl
            · rfl
            · first | exact op_load_elt Try.underlying9 (by rfl) (by rfl) (by rfl) | exact op_load_ptr Try.underlying9 (by rfl) (by rfl) (by first | exact hb | exact setB_at hb) (by rfl)
            apply drun_normT
            · (try dsimp only [zS, zN, zH, zT]); try exact rfl
            apply drun0w
            · rfl
            · rfl
            · rfl
            · intro H; exact op_indexS Try.underlying9 (by rfl) (by rfl) (by decide) (show (c :: r)[(0 : Int).toNat]? = some c by rfl)
            apply drun_normT
            · (try dsimp only [zS, zN, zH, zT]); try exact rfl
            apply drun0w
            · rfl
            · rfl
            · rfl
            · intro H; exact op_gtI (by rfl) (by rfl)
            apply drun_normT
            · (try dsimp only [zS, zN, zH, zT]); try exact rfl
            apply drun0w
            · rfl
            · rfl
            · rfl
            · intro H; exact op_move_tmp (by rfl)
            apply drun_normT
            · (try dsimp only [zS, zN, zH, zT]); try exact rfl
            refine drun_split 52 rfl (fun hg5 => ?_) (fun hg5 => ?_)
            · skip
              (try simp only [decide_eq_true_eq, decide_eq_false_iff_not, beq_iff_eq, beq_eq_false_iff_ne, Bool.not_eq_true', Bool.not_eq_false', bne_iff_ne, ne_eq, Decidable.not_not, bne_eq_false_iff_eq, List.length_map] at hg5)
              have h0 : 0 < (c.toNat : Int) := hg5
              obtain ⟨d, r, rfl⟩ : ∃ d q, r = d :: q := List.exists_cons_of_ne_nil (by intro h; subst h; simp at hsh; omega)
              apply drun_normT
              · (try dsimp only [zS, zN, zH, zT]); try exact rfl
              apply drun0w
              · rfl
              · rfl
              · rfl
              · intro H; exact op_move_tmp (by rfl)
              apply drun_normT
              · (try dsimp only [zS, zN, zH, zT]); try exact rfl
              apply drun0w
              · rfl
              · rfl
              · rfl
              · intro H; first | exact op_nilCheck_ptr (by rfl) | exact op_nilCheck_elt (by rfl)
              apply drun_normT
              · (try dsimp only [zS, zN, zH, zT]); try exact rfl
              apply drun0w
              · rfl
              · rfl
              · rfl
              · intro H; first | exact op_fieldAddr_ptr Try.underlying150 rfl Sz9 (by rfl) (by rfl) | exact op_fieldAddr_elt Try.underlying150 rfl Sz9 (by rfl) (by rfl) (by rfl)
              apply drun_normT
              · (try dsimp only [zS, zN, zH, zT]); try exact rfl
              apply drun1w
              · rfl
              · rfl
              · rfl
              · first | exact op_load_elt Try.underlying9 (by rfl) (by rfl) (by rfl) | exact op_load_ptr Try.underlying9 (by rfl) (by rfl) (by first | exact hb | exact setB_at hb) (by rfl)
              apply drun_normT
              · (try dsimp only [zS, zN, zH, zT]); try exact rfl
              apply drun0w
              · rfl
              · rfl
              · rfl
              · intro H; exact op_indexS Try.underlying9 (by rfl) (by rfl) (by decide) (show (c :: d :: r)[(1 : Int).toNat]? = some d by rfl)
              apply drun_normT
              · (try dsimp only [zS, zN, zH, zT]); try exact rfl
              apply drun0w
              · rfl
              · rfl
              · rfl
              · intro H; exact op_eqI (by rfl) (by rfl)
              apply drun_normT
              · (try dsimp only [zS, zN, zH, zT]); try exact rfl
              apply drun0w
              · rfl
              · rfl
              · rfl
              · intro H; exact op_pick_tt (by rfl) (val_tmp (by rfl))
              apply drun_normT
              · (try dsimp only [zS, zN, zH, zT]); try exact rfl
              apply drun0
              · intro H; exact op_pick_ff (by rfl) (val_tmp (by rfl))
              · rfl
              apply drun_normT
              · (try dsimp only [zS, zN, zH, zT]); try exact rfl
              apply drun_end
              · (try dsimp only [zS, zN, zH, zT]); try exact rfl
              apply cut_to (true :: true :: false :: false :: false :: false :: false :: false :: false :: false :: false :: false :: false :: false :: false :: false :: false :: false :: false :: false :: false :: false :: false :: false :: false :: false :: false :: false :: false :: false :: false :: false :: false :: false :: false :: false :: false :: false :: false :: false :: false :: false :: false :: false :: false :: false :: false :: false :: false :: false :: false :: false :: false :: false :: false :: false :: false :: false :: false :: false :: true :: false :: false :: false :: false :: false :: false :: false :: false :: false :: false :: false :: false :: false :: false :: false :: false :: false :: false :: false :: false :: false :: false :: false :: false :: false :: false :: false :: false :: false :: false :: false :: false :: false :: false :: false :: false :: false :: false :: false :: false :: false :: false :: false :: false :: false :: false :: [])
              · (try dsimp only [maskT]); try exact rfl
              · rfl
              exact ⟨(), by (rw [badN_two h8 hsh h0]) <;> rfl, rfl⟩
            · skip
              (try simp only [decide_eq_true_eq, decide_eq_false_iff_not, beq_iff_eq, beq_eq_false_iff_ne, Bool.not_eq_true', Bool.not_eq_false', bne_iff_ne, ne_eq, Decidable.not_not, bne_eq_false_iff_eq, List.length_map] at hg5)
              have h0 : ¬ 0 < (c.toNat : Int) := hg5
              apply drun_normT
              · (try dsimp only [zS, zN, zH, zT]); try exact rfl
              refine drunU rfl rfl rfl rfl ?_
              apply drun_normT
              · (try dsimp only [zS, zN, zH, zT]); try exact rfl
              refine drunU rfl rfl rfl rfl ?_
              apply drun_normT
              · (try dsimp only [zS, zN, zH, zT]); try exact rfl
              refine drunU rfl rfl rfl rfl ?_
              apply drun_normT
              · (try dsimp only [zS, zN, zH, zT]); try exact rfl
              refine drunU rfl rfl rfl rfl ?_
              apply drun_normT
              · (try dsimp only [zS, zN, zH, zT]); try exact rfl
              refine drunU rfl rfl rfl rfl ?_
              apply drun_normT
              · (try dsimp only [zS, zN, zH, zT]); try exact rfl
              refine drunU rfl rfl rfl rfl ?_
              apply drun_normT
              · (try dsimp only [zS, zN, zH, zT]); try exact rfl
              apply drun0w
              · rfl
              · rfl
              · rfl
              · intro H; exact op_pick_ff (by rfl) (val_const (by rfl))
              apply drun_normT
              · (try dsimp only [zS, zN, zH, zT]); try exact rfl
              apply drun0
              · intro H; exact op_pick_ff (by rfl) (val_tmp (by rfl))
              · rfl
              apply drun_normT
              · (try dsimp only [zS, zN, zH, zT]); try exact rfl
              apply drun_end
              · (try dsimp only [zS, zN, zH, zT]); try exact rfl
              apply cut_to (true :: true :: false :: false :: false :: false :: false :: false :: false :: false :: false :: false :: false :: false :: false :: false :: false :: false :: false :: false :: false :: false :: false :: false :: false :: false :: false :: false :: false :: false :: false :: false :: false :: false :: false :: false :: false :: false :: false :: false :: false :: false :: false :: false :: false :: false :: false :: false :: false :: false :: false :: false :: false :: false :: false :: false :: false :: false :: false :: false :: true :: false :: false :: false :: false :: false :: false :: false :: false :: false :: false :: false :: false :: false :: false :: false :: false :: false :: false :: false :: false :: false :: false :: false :: false :: false :: false :: false :: false :: false :: false :: false :: false :: false :: false :: false :: false :: false :: false :: false :: false :: false :: false :: false :: false :: false :: false :: [])
              · (try dsimp only [maskT]); try exact rfl
              · rfl
              exact ⟨(), by (rw [badN_one h8 hsh h0]) <;> rfl, rfl⟩
    rintro T H ⟨u, rfl, rfl⟩
    refine aw_cond rfl (fun hc6 => ?_) (fun hc6 => ?_)
    · skip
      (try simp only [decide_eq_true_eq, decide_eq_false_iff_not, beq_iff_eq, beq_eq_false_iff_ne, Bool.not_eq_true', Bool.not_eq_false', bne_iff_ne, ne_eq, Decidable.not_not, bne_eq_false_iff_eq, List.length_map] at hc6)
      have hB : badN s = true := hc6
      refine aw_seq ?_
      refine aw_region ?_
      apply al_stepN
      · exact op_move_tmp (by rfl)
      · rfl
      · (try dsimp only [zS, zN, zH, zT]); try exact rfl
      apply al_stepN
      · exact op_callF Try.func93 (by rfl) (by rfl) (.tmp (by rfl) .nil) (fail_ok _ id _ _ hb)
      · rfl
      · (try dsimp only [zS, zN, zH, zT]); try exact rfl
      apply al_end
      · (try dsimp only [zS, zN, zH, zT]); try exact rfl
      refine then_normal ?_
      refine aw_seq ?_
      refine aw_region ?_
      apply al_stepN
      · exact op_assign_const (by rfl)
      · rfl
      · (try dsimp only [zS, zN, zH, zT]); try exact rfl
      apply al_end
      · (try dsimp only [zS, zN, zH, zT]); try exact rfl
      refine then_normal ?_
      refine aw_ret ?_
      refine then_ret ?_
      refine retPost1 rfl rfl ?_
      rw [rNum_badN hB]; exact ⟨rfl, rfl⟩
    · skip
      (try simp only [decide_eq_true_eq, decide_eq_false_iff_not, beq_iff_eq, beq_eq_false_iff_ne, Bool.not_eq_true', Bool.not_eq_false', bne_iff_ne, ne_eq, Decidable.not_not, bne_eq_false_iff_eq, List.length_map] at hc6)
      have hB : badN s = false := hc6
      obtain ⟨c, r, rfl⟩ : ∃ c r, s = c :: r := by cases s with | nil => cases hB | cons c r => exact ⟨c, r, rfl⟩
      have hcl := c.toNat_lt
      obtain ⟨hc8, hcr⟩ := badN_false hB
      have hbl : (r.take c.toNat).length = c.toNat := by simp; omega
      refine aw_skip ?_
      refine then_normal ?_
      refine aw_seq ?_
      refine aw_region ?_
      apply al_stepN
      · exact op_move_tmp (by rfl)
      · rfl
      · (try dsimp only [zS, zN, zH, zT]); try exact rfl
      apply al_stepN
      · first | exact op_nilCheck_ptr (by rfl) | exact op_nilCheck_elt (by rfl)
      · rfl
      · (try dsimp only [zS, zN, zH, zT]); try exact rfl
      apply al_stepN
      · first | exact op_fieldAddr_ptr Try.underlying150 rfl Sz9 (by rfl) (by rfl) | exact op_fieldAddr_elt Try.underlying150 rfl Sz9 (by rfl) (by rfl) (by rfl)
      · rfl
      · (try dsimp only [zS, zN, zH, zT]); try exact rfl
      apply al_stepN
      · first | exact op_load_elt Try.underlying9 (by rfl) (by rfl) (by rfl) | exact op_load_ptr Try.underlying9 (by rfl) (by rfl) (by first | exact hb | exact setB_at hb) (by rfl)
      · rfl
      · (try dsimp only [zS, zN, zH, zT]); try exact rfl
      apply al_stepN
      · exact op_indexS Try.underlying9 (by rfl) (by rfl) (by decide) (show (c :: r)[(0 : Int).toNat]? = some c by rfl)
      · rfl
      · (try dsimp only [zS, zN, zH, zT]); try exact rfl
      apply al_stepN
      · first | exact op_convI (by rw [Try.underlying5]; rfl) Try.underlying3 (by rfl) (wrap_i64 ⟨by omega, by omega⟩) | exact op_convI (by rw [Try.underlying5]; rfl) Try.underlying3 (by rfl) (by rfl)
      · rfl
      · (try dsimp only [zS, zN, zH, zT]); try exact rfl
      apply al_stepN
      · exact op_assign_tmp (by rfl)
      · rfl
      · (try dsimp only [zS, zN, zH, zT]); try exact rfl
      apply al_end
      · (try dsimp only [zS, zN, zH, zT]); try exact rfl
      refine then_normal ?_
      refine aw_seq ?_
      refine aw_region ?_
      apply al_stepN
      · exact op_assign_const (by rfl)
      · rfl
      · (try dsimp only [zS, zN, zH, zT]); try exact rfl
      apply al_end
      · (try dsimp only [zS, zN, zH, zT]); try exact rfl
      refine then_normal ?_
      refine aw_seq ?_
      refine aw_seq ?_
      refine aw_region ?_
      apply al_stepN
      · exact op_move_tmp (by rfl)
      · rfl
      · (try dsimp only [zS, zN, zH, zT]); try exact rfl
      apply al_stepN
      · first | exact op_nilCheck_ptr (by rfl) | exact op_nilCheck_elt (by rfl)
      · rfl
      · (try dsimp only [zS, zN, zH, zT]); try exact rfl
      apply al_stepN
      · first | exact op_fieldAddr_ptr Try.underlying150 rfl Sz9 (by rfl) (by rfl) | exact op_fieldAddr_elt Try.underlying150 rfl Sz9 (by rfl) (by rfl) (by rfl)
      · rfl
      · (try dsimp only [zS, zN, zH, zT]); try exact rfl
      apply al_stepN
      · first | exact op_load_elt Try.underlying9 (by rfl) (by rfl) (by rfl) | exact op_load_ptr Try.underlying9 (by rfl) (by rfl) (by first | exact hb | exact setB_at hb) (by rfl)
      · rfl
      · (try dsimp only [zS, zN, zH, zT]); try exact rfl
      apply al_stepN
      · exact op_move_tmp (by rfl)
      · rfl
      · (try dsimp only [zS, zN, zH, zT]); try exact rfl
      apply al_stepN
      · first | exact op_add (by rfl) (by rfl) (wrap_i64 ⟨by omega, by omega⟩) | exact op_add (by rfl) (by rfl) (by rfl)
      · rfl
      · (try dsimp only [zS, zN, zH, zT]); try exact rfl
      apply al_stepN
      · exact op_sliceS2 (r.take c.toNat) Try.underlying9 (by rfl) (by rfl) (by rfl) (by omega) (by omega) (by simp; omega) (by rw [show (1 : Int).toNat = 1 by rfl, show (1 + (c.toNat : Int)).toNat - 1 = c.toNat by omega]; rfl)
      · rfl
      · (try dsimp only [zS, zN, zH, zT]); try exact rfl
      apply al_stepN
      · exact op_bytes Try.underlying9 Try.underlying86 Try.underlying5 (by rfl)
      · rfl
      · (try dsimp only [zS, zN, zH, zT]); try exact rfl
      apply al_stepN
      · exact op_lenL Try.underlying86 (by first | exact LL.d _ _ | exact LL.own _ _ _ | exact LL.nil _ | assumption)
      · rfl
      · (try dsimp only [zS, zN, zH, zT]); try exact rfl
      apply al_stepN
      · exact op_move_const (by rfl)
      · rfl
      · (try dsimp only [zS, zN, zH, zT]); try exact rfl
      apply al_end
      · (try dsimp only [zS, zN, zH, zT]); try exact rfl
      refine then_normal ?_
      refine aw_block ?_
      apply aw_loopF (fun n T H => ∃ (k : Nat), T = ((.ptr id 0) :: (.d (I most)) :: .un :: .un :: .un :: (.d (I c.toNat)) :: (.d (.v (.int .u64 (val ((r.take c.toNat).take k))))) :: .un :: .un :: .un :: .un :: .un :: .un :: .un :: .un :: .un :: .un :: .un :: .un :: .un :: .un :: .un :: .un :: .un :: .un :: .un :: .un :: .un :: .un :: .un :: .un :: .un :: .un :: .un :: .un :: .un :: .un :: .un :: .un :: .un :: .un :: .un :: .un :: .un :: .un :: .un :: .un :: .un :: .un :: .un :: .un :: .un :: .un :: .un :: .un :: .un :: .un :: .un :: .un :: .un :: .un :: .un :: .un :: .un :: .un :: .un :: .un :: .un :: .un :: .un :: .un :: .un :: .un :: .un :: .un :: .un :: (.d (.lst 1 ((r.take c.toNat).map BY))) :: (.d (I ((r.take c.toNat).map BY).length)) :: (.d (I k)) :: .un :: .un :: .un :: .un :: .un :: .un :: .un :: .un :: .un :: .un :: .un :: .un :: .un :: .un :: .un :: .un :: .un :: .un :: .un :: .un :: .un :: .un :: .un :: .un :: .un :: .un :: .un :: .un :: []) ∧ k ≤ c.toNat ∧ n = c.toNat - k ∧ Hs = H) (c.toNat) (true :: true :: false :: false :: false :: true :: true :: false :: false :: false :: false :: false :: false :: false :: false :: false :: false :: false :: false :: false :: false :: false :: false :: false :: false :: false :: false :: false :: false :: false :: false :: false :: false :: false :: false :: false :: false :: false :: false :: false :: false :: false :: false :: false :: false :: false :: false :: false :: false :: false :: false :: false :: false :: false :: false :: false :: false :: false :: false :: false :: false :: false :: false :: false :: false :: false :: false :: false :: false :: false :: false :: false :: false :: false :: false :: false :: true :: true :: true :: false :: false :: false :: false :: false :: false :: false :: false :: false :: false :: false :: false :: false :: false :: false :: false :: false :: false :: false :: false :: false :: false :: false :: false :: false :: false :: false :: false :: [])
      · (try dsimp only [maskT]); try exact rfl
      · rfl
      · exact ⟨0, rfl, by omega, rfl, rfl⟩
      rintro n T H ⟨k, rfl, hk, rfl, rfl⟩
      have hv := val_lt ((r.take c.toNat).take k)
      have hT : ((r.take c.toNat).take k).length = k := by rw [List.length_take]; omega
      rw [hT] at hv
      refine aw_seq ?_
      refine aw_region ?_
      apply al_stepN
      · exact op_ltI (by rfl) (by rfl)
      · rfl
      · (try dsimp only [zS, zN, zH, zT]); try exact rfl
      apply al_end
      · (try dsimp only [zS, zN, zH, zT]); try exact rfl
      refine then_normal ?_
      refine aw_seq ?_
      refine aw_cond rfl (fun hc7 => ?_) (fun hc7 => ?_)
      · skip
        (try simp only [decide_eq_true_eq, decide_eq_false_iff_not, beq_iff_eq, beq_eq_false_iff_ne, Bool.not_eq_true', Bool.not_eq_false', bne_iff_ne, ne_eq, Decidable.not_not, bne_eq_false_iff_eq, List.length_map] at hc7)
        (try simp only [List.length_map] at hc7)
        have hlt : k < c.toNat := by omega
        obtain ⟨x, hx⟩ : ∃ x, (r.take c.toNat)[k]? = some x := ⟨_, List.getElem?_eq_getElem (by omega)⟩
        have hxl := x.toNat_lt
        have hv7 : val ((r.take c.toNat).take k) < 256 ^ 7 := Nat.lt_of_lt_of_le hv (Nat.pow_le_pow_right (by decide) (by omega))
        have hv' : val ((r.take c.toNat).take k) < 72057594037927936 := by simpa using hv7
        refine aw_skip ?_
        refine then_normal ?_
        refine aw_seq ?_
        refine aw_block ?_
        refine aw_seq ?_
        refine aw_region ?_
        apply al_stepN
        · exact op_indexAddr Try.underlying86 Sz5 (LL.d _ _) (by rfl) (by omega) (show ((r.take c.toNat).map BY)[((k : Nat) : Int).toNat]? = some (BY x) by rw [List.getElem?_map, show ((k : Nat) : Int).toNat = k from rfl, hx]; rfl) (by rfl)
        · rfl
        · (try dsimp only [zS, zN, zH, zT]); try exact rfl
        apply al_stepN
        · first | exact op_load_elt Try.underlying5 (by rfl) (by rfl) (by rfl) | exact op_load_ptr Try.underlying5 (by rfl) (by rfl) (by first | exact hb | exact setB_at hb) (by rfl)
        · rfl
        · (try dsimp only [zS, zN, zH, zT]); try exact rfl
        apply al_stepN
        · exact op_assign_tmp (by rfl)
        · rfl
        · (try dsimp only [zS, zN, zH, zT]); try exact rfl
        apply al_end
        · (try dsimp only [zS, zN, zH, zT]); try exact rfl
        refine then_normal ?_
        refine aw_region ?_
        apply al_stepN
        · exact op_move_tmp (by rfl)
        · rfl
        · (try dsimp only [zS, zN, zH, zT]); try exact rfl
        apply al_stepN
        · exact op_shl (by rfl) (by rfl) (by omega) (shl8 hv7)
        · rfl
        · (try dsimp only [zS, zN, zH, zT]); try exact rfl
        apply al_stepN
        · exact op_move_tmp (by rfl)
        · rfl
        · (try dsimp only [zS, zN, zH, zT]); try exact rfl
        apply al_stepN
        · first | exact op_convI (by rw [Try.underlying5]; rfl) Try.underlying151 (by rfl) (wrap_u64 ⟨by omega, by omega⟩) | exact op_convI (by rw [Try.underlying5]; rfl) Try.underlying151 (by rfl) (by rfl)
        · rfl
        · (try dsimp only [zS, zN, zH, zT]); try exact rfl
        apply al_stepN
        · exact op_or (by rfl) (by rfl) ((or_byte hv7 hxl).trans (by rw [← val_snoc, ← take_snoc hx]))
        · rfl
        · (try dsimp only [zS, zN, zH, zT]); try exact rfl
        apply al_stepN
        · exact op_assign_tmp (by rfl)
        · rfl
        · (try dsimp only [zS, zN, zH, zT]); try exact rfl
        apply al_end
        · (try dsimp only [zS, zN, zH, zT]); try exact rfl
        refine inBlock_normal (then_normal ?_)
        refine aw_region ?_
        apply al_stepN
        · first | exact op_add (by rfl) (by rfl) (wrap_i64 ⟨by omega, by omega⟩) | exact op_add (by rfl) (by rfl) (by rfl)
        · rfl
        · (try dsimp only [zS, zN, zH, zT]); try exact rfl
        apply al_stepN
        · exact op_move_tmp (by rfl)
        · rfl
        · (try dsimp only [zS, zN, zH, zT]); try exact rfl
        apply al_end
        · (try dsimp only [zS, zN, zH, zT]); try exact rfl
        apply again_to (c.toNat - (k + 1)) (true :: true :: false :: false :: false :: true :: true :: false :: false :: false :: false :: false :: false :: false :: false :: false :: false :: false :: false :: false :: false :: false :: false :: false :: false :: false :: false :: false :: false :: false :: false :: false :: false :: false :: false :: false :: false :: false :: false :: false :: false :: false :: false :: false :: false :: false :: false :: false :: false :: false :: false :: false :: false :: false :: false :: false :: false :: false :: false :: false :: false :: false :: false :: false :: false :: false :: false :: false :: false :: false :: false :: false :: false :: false :: false :: false :: true :: true :: true :: false :: false :: false :: false :: false :: false :: false :: false :: false :: false :: false :: false :: false :: false :: false :: false :: false :: false :: false :: false :: false :: false :: false :: false :: false :: false :: false :: false :: [])
        · (try dsimp only [maskT]); try exact rfl
        · rfl
        · omega
        exact ⟨k + 1, rfl, by omega, rfl, rfl⟩
      · skip
        (try simp only [decide_eq_true_eq, decide_eq_false_iff_not, beq_iff_eq, beq_eq_false_iff_ne, Bool.not_eq_true', Bool.not_eq_false', bne_iff_ne, ne_eq, Decidable.not_not, bne_eq_false_iff_eq, List.length_map] at hc7)
        (try simp only [List.length_map] at hc7)
        have hke : k = c.toNat := by omega
        subst hke
        rw [List.take_of_length_le (by omega : (r.take c.toNat).length ≤ c.toNat)] at hv ⊢
        have hv8 : val (r.take c.toNat) < 256 ^ 8 := Nat.lt_of_lt_of_le hv (Nat.pow_le_pow_right (by decide) hc8)
        have hv9 : val (r.take c.toNat) < 18446744073709551616 := by simpa using hv8
        refine aw_exit ?_
        refine then_exit (again_exit (inBlock_here (then_normal ?_)))
        refine aw_seq ?_
        refine aw_region ?_
        apply al_stepN
        · exact op_move_tmp (by rfl)
        · rfl
        · (try dsimp only [zS, zN, zH, zT]); try exact rfl
        apply al_stepN
        · exact op_move_tmp (by rfl)
        · rfl
        · (try dsimp only [zS, zN, zH, zT]); try exact rfl
        apply al_stepN
        · first | exact op_nilCheck_ptr (by rfl) | exact op_nilCheck_elt (by rfl)
        · rfl
        · (try dsimp only [zS, zN, zH, zT]); try exact rfl
        apply al_stepN
        · first | exact op_fieldAddr_ptr Try.underlying150 rfl Sz9 (by rfl) (by rfl) | exact op_fieldAddr_elt Try.underlying150 rfl Sz9 (by rfl) (by rfl) (by rfl)
        · rfl
        · (try dsimp only [zS, zN, zH, zT]); try exact rfl
        apply al_stepN
        · first | exact op_load_elt Try.underlying9 (by rfl) (by rfl) (by rfl) | exact op_load_ptr Try.underlying9 (by rfl) (by rfl) (by first | exact hb | exact setB_at hb) (by rfl)
        · rfl
        · (try dsimp only [zS, zN, zH, zT]); try exact rfl
        apply al_stepN
        · exact op_move_tmp (by rfl)
        · rfl
        · (try dsimp only [zS, zN, zH, zT]); try exact rfl
        apply al_stepN
        · first | exact op_add (by rfl) (by rfl) (wrap_i64 ⟨by omega, by omega⟩) | exact op_add (by rfl) (by rfl) (by rfl)
        · rfl
        · (try dsimp only [zS, zN, zH, zT]); try exact rfl
        apply al_stepN
        · exact op_sliceS1 (r.drop c.toNat) Try.underlying9 (by rfl) (by rfl) (by omega) (by simp; omega) (by rw [show (1 + (c.toNat : Int)).toNat = c.toNat + 1 by omega]; rfl)
        · rfl
        · (try dsimp only [zS, zN, zH, zT]); try exact rfl
        apply al_stepN
        · first | exact op_nilCheck_ptr (by rfl) | exact op_nilCheck_elt (by rfl)
        · rfl
        · (try dsimp only [zS, zN, zH, zT]); try exact rfl
        apply al_stepN
        · first | exact op_fieldAddr_ptr Try.underlying150 rfl Sz9 (by rfl) (by rfl) | exact op_fieldAddr_elt Try.underlying150 rfl Sz9 (by rfl) (by rfl) (by rfl)
        · rfl
        · (try dsimp only [zS, zN, zH, zT]); try exact rfl
        apply al_stepN
        · exact op_storeB (vs := [.d (S (r.drop c.toNat))]) (b' := ⟨150, [.d (S (r.drop c.toNat)), .d (TF false)], false⟩) (H' := Hs.setB id ⟨150, [.d (S (r.drop c.toNat)), .d (TF false)], false⟩) Sz9 (by rfl) hb (by intro h; cases h) (by rfl) (by rfl) (Nat.le_of_ble_eq_true rfl) (by simp [AV.one, DV.one, TF, S, I, BY]) (by rfl) (by rfl) rfl
        · rfl
        · (try dsimp only [zS, zN, zH, zT]); try exact rfl
        apply al_end
        · (try dsimp only [zS, zN, zH, zT]); try exact rfl
        refine then_normal ?_
        refine aw_seq ?_
        refine aw_seq ?_
        refine aw_region ?_
        apply al_stepN
        · exact op_move_tmp (by rfl)
        · rfl
        · (try dsimp only [zS, zN, zH, zT]); try exact rfl
        apply al_stepN
        · exact op_move_tmp (by rfl)
        · rfl
        · (try dsimp only [zS, zN, zH, zT]); try exact rfl
        apply al_stepN
        · exact op_max (by rfl) (by rfl)
        · rfl
        · (try dsimp only [zS, zN, zH, zT]); try exact rfl
        apply al_stepN
        · exact op_convI (by rw [Try.underlying3]; rfl) Try.underlying151 (by rfl) (wrap_u64 (by split <;> omega))
        · rfl
        · (try dsimp only [zS, zN, zH, zT]); try exact rfl
        apply al_stepN
        · exact op_gtI (by rfl) (by rfl)
        · rfl
        · (try dsimp only [zS, zN, zH, zT]); try exact rfl
        apply al_end
        · (try dsimp only [zS, zN, zH, zT]); try exact rfl
        refine then_normal ?_
        refine aw_cond rfl (fun hc8 => ?_) (fun hc8 => ?_)
        · skip
          (try simp only [decide_eq_true_eq, decide_eq_false_iff_not, beq_iff_eq, beq_eq_false_iff_ne, Bool.not_eq_true', Bool.not_eq_false', bne_iff_ne, ne_eq, Decidable.not_not, bne_eq_false_iff_eq, List.length_map] at hc8)
          have hbig := hc8
          refine aw_seq ?_
          refine aw_region ?_
          apply al_stepN
          · exact op_move_tmp (by rfl)
          · rfl
          · (try dsimp only [zS, zN, zH, zT]); try exact rfl
          apply al_stepN
          · exact op_callF Try.func93 (by rfl) (by rfl) (.tmp (by rfl) .nil) (fail_ok _ id _ _ (setB_at hb))
          · rfl
          · (try dsimp only [zS, zN, zH, zT]); try exact rfl
          apply al_end
          · (try dsimp only [zS, zN, zH, zT]); try exact rfl
          refine then_normal ?_
          refine aw_seq ?_
          refine aw_region ?_
          apply al_stepN
          · exact op_assign_const (by rfl)
          · rfl
          · (try dsimp only [zS, zN, zH, zT]); try exact rfl
          apply al_end
          · (try dsimp only [zS, zN, zH, zT]); try exact rfl
          refine then_normal ?_
          refine aw_ret ?_
          refine then_ret ?_
          refine retPost1 rfl rfl ?_
          rw [rNum_big hB hbig]; exact ⟨rfl, setB_setB⟩
        · skip
          (try simp only [decide_eq_true_eq, decide_eq_false_iff_not, beq_iff_eq, beq_eq_false_iff_ne, Bool.not_eq_true', Bool.not_eq_false', bne_iff_ne, ne_eq, Decidable.not_not, bne_eq_false_iff_eq, List.length_map] at hc8)
          have hsm := hc8
          refine aw_skip ?_
          refine then_normal ?_
          refine aw_seq ?_
          refine aw_region ?_
          apply al_stepN
          · exact op_move_tmp (by rfl)
          · rfl
          · (try dsimp only [zS, zN, zH, zT]); try exact rfl
          apply al_stepN
          · exact op_convI (by rw [Try.underlying151]; rfl) Try.underlying3 (by rfl) (wrap_i64 (by split at hsm <;> omega))
          · rfl
          · (try dsimp only [zS, zN, zH, zT]); try exact rfl
          apply al_stepN
          · exact op_assign_tmp (by rfl)
          · rfl
          · (try dsimp only [zS, zN, zH, zT]); try exact rfl
          apply al_end
          · (try dsimp only [zS, zN, zH, zT]); try exact rfl
          refine then_normal ?_
          refine aw_ret ?_
          refine retPost1 rfl rfl ?_
          rw [rNum_ok hB hsm]; exact ⟨rfl, rfl⟩
theorem num_at {Hs : HS} {id : Nat} {s s' : List UInt8} {bad bad' : Bool} {most : Int} {n : Nat} (hr : rNum most (s, bad) = (n, (s', bad'))) (hb : Hs.blks[id]? = some (RB 150 (s, bad))) (hm : most ≤ 9223372036854775807) : ACalls Try.prog 56 [.ptr id 0, .d (I most)] Hs (Ret (.d (I n)) (Hs.setB id (RB 150 (s', bad')))) := by
  have h := num_ok Hs id s bad most hb hm
  rwa [hr] at h
/- A reader reads a text. -/
set_option maxRecDepth 100000 in
theorem rtext_ok (Hs : HS) (id : Nat) (s : List UInt8) (bad : Bool) (most : Int) (hb : Hs.blks[id]? = some (RB 150 (s, bad))) (hm : most ≤ 9223372036854775807) : ACalls Try.prog 57 [.ptr id 0, .d (I most)] Hs (Ret (.d (S (rText most (s, bad)).1)) (Hs.setB id (RB 150 (rText most (s, bad)).2))) := by
  obtain ⟨n, ⟨s', bad'⟩, hr⟩ : ∃ n st, rNum most (s, bad) = (n, st) := ⟨_, _, rfl⟩
  have hb1 : (Hs.setB id (RB 150 (s', bad'))).blks[id]? = some ⟨150, [.d (S s'), .d (TF bad')], false⟩ := setB_at hb
  have hnum : ACalls Try.prog 56 [.ptr id 0, .d (I most)] Hs (Ret (.d (I n)) (Hs.setB id (RB 150 (s', bad')))) := by have h := num_ok Hs id s bad most hb hm; rwa [hr] at h
  have hn0 : (0 : Int) ≤ n := by omega
  refine acalls_of_aw Try.func57 rfl ?_
  refine aw_start (T' := [.ptr id 0, .d (I most), .un, .un, .un, .un, .un, .un, .un, .un, .un, .un, .un, .un, .un, .un, .un, .un, .un, .un, .un, .un, .un, .un, .un, .un, .un, .un, .un, .un, .un, .un, .un, .un, .un, .un, .un, .un, .un, .un, .un, .un, .un]) rfl ?_
  refine aw_seq ?_
  refine aw_region ?_
  apply al_stepN
  · exact op_assign_const (by rfl)
  · rfl
  · (try dsimp only [zS, zN, zH, zT]); try exact rfl
  apply al_end
  · (try dsimp only [zS, zN, zH, zT]); try exact rfl
  refine then_normal ?_
  refine aw_seq ?_
  refine aw_region ?_
  apply al_stepN
  · exact op_move_tmp (by rfl)
  · rfl
  · (try dsimp only [zS, zN, zH, zT]); try exact rfl
  apply al_stepN
  · exact op_move_tmp (by rfl)
  · rfl
  · (try dsimp only [zS, zN, zH, zT]); try exact rfl
  apply al_stepN
  · exact op_callF Try.func56 (by rfl) (by rfl) (.tmp (by rfl) (.tmp (by rfl) .nil)) (hnum)
  · rfl
  · (try dsimp only [zS, zN, zH, zT]); try exact rfl
  apply al_stepN
  · exact op_assign_tmp (by rfl)
  · rfl
  · (try dsimp only [zS, zN, zH, zT]); try exact rfl
  apply al_end
  · (try dsimp only [zS, zN, zH, zT]); try exact rfl
  refine then_normal ?_
  refine aw_seq ?_
  refine aw_seq ?_
  refine aw_region ?_
  apply al_stepN
  · exact op_move_tmp (by rfl)
  · rfl
  · (try dsimp only [zS, zN, zH, zT]); try exact rfl
  apply al_stepN
  · exact op_ptr_nil Try.underlying91 (by rfl) (by rfl)
  · rfl
  · (try dsimp only [zS, zN, zH, zT]); try exact rfl
  apply al_stepN
  · exact op_move_tmp (by rfl)
  · rfl
  · (try dsimp only [zS, zN, zH, zT]); try exact rfl
  apply al_wantedN
  · rfl
  · rfl
  · rfl
  · exact op_move_tmp (by rfl)
  · (try dsimp only [zS, zN, zH, zT]); try exact rfl
  apply al_wantedN
  · rfl
  · rfl
  · rfl
  · first | exact op_nilCheck_ptr (by rfl) | exact op_nilCheck_elt (by rfl)
  · (try dsimp only [zS, zN, zH, zT]); try exact rfl
  apply al_wantedN
  · rfl
  · rfl
  · rfl
  · first | exact op_fieldAddr_ptr Try.underlying150 rfl Sz4 (by rfl) (by rfl) | exact op_fieldAddr_elt Try.underlying150 rfl Sz4 (by rfl) (by rfl) (by rfl)
  · (try dsimp only [zS, zN, zH, zT]); try exact rfl
  apply al_wantedN
  · rfl
  · rfl
  · rfl
  · first | exact op_load_elt Try.underlying4 (by rfl) (by rfl) (by rfl) | exact op_load_ptr Try.underlying4 (by rfl) (by rfl) hb1 (by rfl)
  · (try dsimp only [zS, zN, zH, zT]); try exact rfl
  apply al_stepN
  · exact op_pick_ff (by rfl) (val_tmp (by rfl))
  · rfl
  · (try dsimp only [zS, zN, zH, zT]); try exact rfl
  apply al_end
  · (try dsimp only [zS, zN, zH, zT]); try exact rfl
  refine then_normal ?_
  refine aw_cond rfl (fun hc1 => ?_) (fun hc1 => ?_)
  · skip
    (try simp only [decide_eq_true_eq, decide_eq_false_iff_not, beq_iff_eq, beq_eq_false_iff_ne, Bool.not_eq_true', Bool.not_eq_false', bne_iff_ne, ne_eq, Decidable.not_not, bne_eq_false_iff_eq, List.length_map] at hc1)
    have hbad : bad' = true := hc1
    refine aw_seq ?_
    refine aw_region ?_
    apply al_stepN
    · exact op_assign_const (by rfl)
    · rfl
    · (try dsimp only [zS, zN, zH, zT]); try exact rfl
    apply al_end
    · (try dsimp only [zS, zN, zH, zT]); try exact rfl
    refine then_normal ?_
    refine aw_ret ?_
    refine then_ret ?_
    refine retPost1 rfl rfl ?_
    have e : rText most (s, bad) = ([], (s', bad')) := by simp [rText, hr, hbad]
    rw [e]; exact ⟨rfl, rfl⟩
  · skip
    (try simp only [decide_eq_true_eq, decide_eq_false_iff_not, beq_iff_eq, beq_eq_false_iff_ne, Bool.not_eq_true', Bool.not_eq_false', bne_iff_ne, ne_eq, Decidable.not_not, bne_eq_false_iff_eq, List.length_map] at hc1)
    have hbad : bad' = false := hc1
    subst hbad
    refine aw_skip ?_
    refine then_normal ?_
    refine aw_seq ?_
    refine aw_seq ?_
    refine aw_region ?_
    apply al_stepN
    · exact op_move_tmp (by rfl)
    · rfl
    · (try dsimp only [zS, zN, zH, zT]); try exact rfl
    apply al_stepN
    · exact op_move_tmp (by rfl)
    · rfl
    · (try dsimp only [zS, zN, zH, zT]); try exact rfl
    apply al_stepN
    · first | exact op_nilCheck_ptr (by rfl) | exact op_nilCheck_elt (by rfl)
    · rfl
    · (try dsimp only [zS, zN, zH, zT]); try exact rfl
    apply al_stepN
    · first | exact op_fieldAddr_ptr Try.underlying150 rfl Sz9 (by rfl) (by rfl) | exact op_fieldAddr_elt Try.underlying150 rfl Sz9 (by rfl) (by rfl) (by rfl)
    · rfl
    · (try dsimp only [zS, zN, zH, zT]); try exact rfl
    apply al_stepN
    · first | exact op_load_elt Try.underlying9 (by rfl) (by rfl) (by rfl) | exact op_load_ptr Try.underlying9 (by rfl) (by rfl) hb1 (by rfl)
    · rfl
    · (try dsimp only [zS, zN, zH, zT]); try exact rfl
    apply al_stepN
    · exact op_lenS Try.underlying9 (by rfl)
    · rfl
    · (try dsimp only [zS, zN, zH, zT]); try exact rfl
    apply al_stepN
    · exact op_gtI (by rfl) (by rfl)
    · rfl
    · (try dsimp only [zS, zN, zH, zT]); try exact rfl
    apply al_end
    · (try dsimp only [zS, zN, zH, zT]); try exact rfl
    refine then_normal ?_
    refine aw_cond rfl (fun hc2 => ?_) (fun hc2 => ?_)
    · skip
      (try simp only [decide_eq_true_eq, decide_eq_false_iff_not, beq_iff_eq, beq_eq_false_iff_ne, Bool.not_eq_true', Bool.not_eq_false', bne_iff_ne, ne_eq, Decidable.not_not, bne_eq_false_iff_eq, List.length_map] at hc2)
      have hlt : s'.length < n := by omega
      refine aw_seq ?_
      refine aw_region ?_
      apply al_stepN
      · exact op_move_tmp (by rfl)
      · rfl
      · (try dsimp only [zS, zN, zH, zT]); try exact rfl
      apply al_stepN
      · exact op_callF Try.func93 (by rfl) (by rfl) (.tmp (by rfl) .nil) (fail_ok _ id _ _ hb1)
      · rfl
      · (try dsimp only [zS, zN, zH, zT]); try exact rfl
      apply al_end
      · (try dsimp only [zS, zN, zH, zT]); try exact rfl
      refine then_normal ?_
      refine aw_seq ?_
      refine aw_region ?_
      apply al_stepN
      · exact op_assign_const (by rfl)
      · rfl
      · (try dsimp only [zS, zN, zH, zT]); try exact rfl
      apply al_end
      · (try dsimp only [zS, zN, zH, zT]); try exact rfl
      refine then_normal ?_
      refine aw_ret ?_
      refine then_ret ?_
      refine retPost1 rfl rfl ?_
      have e : rText most (s, bad) = ([], ([], true)) := by simp [rText, hr, hlt]
      rw [e]; exact ⟨rfl, setB_setB⟩
    · skip
      (try simp only [decide_eq_true_eq, decide_eq_false_iff_not, beq_iff_eq, beq_eq_false_iff_ne, Bool.not_eq_true', Bool.not_eq_false', bne_iff_ne, ne_eq, Decidable.not_not, bne_eq_false_iff_eq, List.length_map] at hc2)
      have hge : n ≤ s'.length := by omega
      refine aw_skip ?_
      refine then_normal ?_
      refine aw_seq ?_
      refine aw_region ?_
      apply al_stepN
      · exact op_move_tmp (by rfl)
      · rfl
      · (try dsimp only [zS, zN, zH, zT]); try exact rfl
      apply al_stepN
      · first | exact op_nilCheck_ptr (by rfl) | exact op_nilCheck_elt (by rfl)
      · rfl
      · (try dsimp only [zS, zN, zH, zT]); try exact rfl
      apply al_stepN
      · first | exact op_fieldAddr_ptr Try.underlying150 rfl Sz9 (by rfl) (by rfl) | exact op_fieldAddr_elt Try.underlying150 rfl Sz9 (by rfl) (by rfl) (by rfl)
      · rfl
      · (try dsimp only [zS, zN, zH, zT]); try exact rfl
      apply al_stepN
      · first | exact op_load_elt Try.underlying9 (by rfl) (by rfl) (by rfl) | exact op_load_ptr Try.underlying9 (by rfl) (by rfl) hb1 (by rfl)
      · rfl
      · (try dsimp only [zS, zN, zH, zT]); try exact rfl
      apply al_stepN
      · exact op_move_tmp (by rfl)
      · rfl
      · (try dsimp only [zS, zN, zH, zT]); try exact rfl
      apply al_stepN
      · exact op_sliceS0 (s'.take n) Try.underlying9 (by rfl) (by rfl) (by omega) (by omega) (by simp)
      · rfl
      · (try dsimp only [zS, zN, zH, zT]); try exact rfl
      apply al_stepN
      · exact op_assign_tmp (by rfl)
      · rfl
      · (try dsimp only [zS, zN, zH, zT]); try exact rfl
      apply al_end
      · (try dsimp only [zS, zN, zH, zT]); try exact rfl
      refine then_normal ?_
      refine aw_seq ?_
      refine aw_region ?_
      apply al_stepN
      · exact op_move_tmp (by rfl)
      · rfl
      · (try dsimp only [zS, zN, zH, zT]); try exact rfl
      apply al_stepN
      · exact op_move_tmp (by rfl)
      · rfl
      · (try dsimp only [zS, zN, zH, zT]); try exact rfl
      apply al_stepN
      · first | exact op_nilCheck_ptr (by rfl) | exact op_nilCheck_elt (by rfl)
      · rfl
      · (try dsimp only [zS, zN, zH, zT]); try exact rfl
      apply al_stepN
      · first | exact op_fieldAddr_ptr Try.underlying150 rfl Sz9 (by rfl) (by rfl) | exact op_fieldAddr_elt Try.underlying150 rfl Sz9 (by rfl) (by rfl) (by rfl)
      · rfl
      · (try dsimp only [zS, zN, zH, zT]); try exact rfl
      apply al_stepN
      · first | exact op_load_elt Try.underlying9 (by rfl) (by rfl) (by rfl) | exact op_load_ptr Try.underlying9 (by rfl) (by rfl) hb1 (by rfl)
      · rfl
      · (try dsimp only [zS, zN, zH, zT]); try exact rfl
      apply al_stepN
      · exact op_move_tmp (by rfl)
      · rfl
      · (try dsimp only [zS, zN, zH, zT]); try exact rfl
      apply al_stepN
      · exact op_sliceS1 (s'.drop n) Try.underlying9 (by rfl) (by rfl) (by omega) (by omega) (by simp)
      · rfl
      · (try dsimp only [zS, zN, zH, zT]); try exact rfl
      apply al_stepN
      · first | exact op_nilCheck_ptr (by rfl) | exact op_nilCheck_elt (by rfl)
      · rfl
      · (try dsimp only [zS, zN, zH, zT]); try exact rfl
      apply al_stepN
      · first | exact op_fieldAddr_ptr Try.underlying150 rfl Sz9 (by rfl) (by rfl) | exact op_fieldAddr_elt Try.underlying150 rfl Sz9 (by rfl) (by rfl) (by rfl)
      · rfl
      · (try dsimp only [zS, zN, zH, zT]); try exact rfl
      apply al_stepN
      · exact op_storeB (vs := [.d (S (s'.drop n))]) (b' := ⟨150, [.d (S (s'.drop n)), .d (TF false)], false⟩) (H' := Hs.setB id ⟨150, [.d (S (s'.drop n)), .d (TF false)], false⟩) Sz9 (by rfl) hb1 (by intro h; cases h) (by rfl) (by rfl) (Nat.le_of_ble_eq_true rfl) (by simp [AV.one, DV.one, TF, S, I, BY]) (by rfl) (by rfl) setB_setB
      · rfl
      · (try dsimp only [zS, zN, zH, zT]); try exact rfl
      apply al_end
      · (try dsimp only [zS, zN, zH, zT]); try exact rfl
      refine then_normal ?_
      refine aw_seq ?_
      refine aw_region ?_
      apply al_stepN
      · exact op_move_tmp (by rfl)
      · rfl
      · (try dsimp only [zS, zN, zH, zT]); try exact rfl
      apply al_stepN
      · exact op_assign_tmp (by rfl)
      · rfl
      · (try dsimp only [zS, zN, zH, zT]); try exact rfl
      apply al_end
      · (try dsimp only [zS, zN, zH, zT]); try exact rfl
      refine then_normal ?_
      refine aw_ret ?_
      refine retPost1 rfl rfl ?_
      have e : rText most (s, bad) = (s'.take n, (s'.drop n, false)) := by simp [rText, hr, show ¬ s'.length < n by omega]
      rw [e]; exact ⟨rfl, rfl⟩
/- A reader reads a flag. -/
set_option maxRecDepth 100000 in
theorem rflag_ok (Hs : HS) (id : Nat) (s : List UInt8) (bad : Bool) (hb : Hs.blks[id]? = some (RB 150 (s, bad))) : ACalls Try.prog 58 [.ptr id 0] Hs (Ret (.d (TF (rFlag (s, bad)).1)) (Hs.setB id (RB 150 (rFlag (s, bad)).2))) := by
  have hb : Hs.blks[id]? = some ⟨150, [.d (S s), .d (TF bad)], false⟩ := hb
  refine acalls_of_aw Try.func58 rfl ?_
  refine aw_start (T' := [.ptr id 0, .un, .un, .un, .un, .un, .un, .un, .un, .un, .un, .un, .un, .un, .un, .un, .un, .un, .un, .un, .un, .un, .un, .un, .un, .un, .un, .un, .un, .un, .un, .un, .un, .un, .un, .un, .un, .un, .un, .un, .un, .un]) rfl ?_
  refine aw_seq ?_
  refine aw_region ?_
  apply al_stepN
  · exact op_assign_const (by rfl)
  · rfl
  · (try dsimp only [zS, zN, zH, zT]); try exact rfl
  apply al_end
  · (try dsimp only [zS, zN, zH, zT]); try exact rfl
  refine then_normal ?_
  refine aw_seq ?_
  refine aw_seq ?_
  refine aw_region ?_
  apply al_stepN
  · exact op_move_tmp (by rfl)
  · rfl
  · (try dsimp only [zS, zN, zH, zT]); try exact rfl
  apply al_stepN
  · exact op_ptr_nil Try.underlying91 (by rfl) (by rfl)
  · rfl
  · (try dsimp only [zS, zN, zH, zT]); try exact rfl
  apply al_stepN
  · exact op_move_tmp (by rfl)
  · rfl
  · (try dsimp only [zS, zN, zH, zT]); try exact rfl
  apply al_wantedN
  · rfl
  · rfl
  · rfl
  · exact op_move_tmp (by rfl)
  · (try dsimp only [zS, zN, zH, zT]); try exact rfl
  apply al_wantedN
  · rfl
  · rfl
  · rfl
  · first | exact op_nilCheck_ptr (by rfl) | exact op_nilCheck_elt (by rfl)
  · (try dsimp only [zS, zN, zH, zT]); try exact rfl
  apply al_wantedN
  · rfl
  · rfl
  · rfl
  · first | exact op_fieldAddr_ptr Try.underlying150 rfl Sz4 (by rfl) (by rfl) | exact op_fieldAddr_elt Try.underlying150 rfl Sz4 (by rfl) (by rfl) (by rfl)
  · (try dsimp only [zS, zN, zH, zT]); try exact rfl
  apply al_wantedN
  · rfl
  · rfl
  · rfl
  · first | exact op_load_elt Try.underlying4 (by rfl) (by rfl) (by rfl) | exact op_load_ptr Try.underlying4 (by rfl) (by rfl) hb (by rfl)
  · (try dsimp only [zS, zN, zH, zT]); try exact rfl
  apply al_stepN
  · exact op_pick_ff (by rfl) (val_tmp (by rfl))
  · rfl
  · (try dsimp only [zS, zN, zH, zT]); try exact rfl
  apply al_end
  · (try dsimp only [zS, zN, zH, zT]); try exact rfl
  refine then_normal ?_
  refine aw_cond rfl (fun hc1 => ?_) (fun hc1 => ?_)
  · skip
    (try simp only [decide_eq_true_eq, decide_eq_false_iff_not, beq_iff_eq, beq_eq_false_iff_ne, Bool.not_eq_true', Bool.not_eq_false', bne_iff_ne, ne_eq, Decidable.not_not, bne_eq_false_iff_eq, List.length_map] at hc1)
    have hbad : bad = true := hc1
    subst hbad
    refine aw_seq ?_
    refine aw_region ?_
    apply al_stepN
    · exact op_assign_const (by rfl)
    · rfl
    · (try dsimp only [zS, zN, zH, zT]); try exact rfl
    apply al_end
    · (try dsimp only [zS, zN, zH, zT]); try exact rfl
    refine then_normal ?_
    refine aw_ret ?_
    refine then_ret ?_
    refine retPost1 rfl rfl ?_
    exact ⟨rfl, (setB_self hb).symm⟩
  · skip
    (try simp only [decide_eq_true_eq, decide_eq_false_iff_not, beq_iff_eq, beq_eq_false_iff_ne, Bool.not_eq_true', Bool.not_eq_false', bne_iff_ne, ne_eq, Decidable.not_not, bne_eq_false_iff_eq, List.length_map] at hc1)
    have hbad : bad = false := hc1
    subst hbad
    refine aw_skip ?_
    refine then_normal ?_
    refine aw_seq ?_
    refine aw_seq ?_
    refine aw_region ?_
    apply al_stepN
    · exact op_move_tmp (by rfl)
    · rfl
    · (try dsimp only [zS, zN, zH, zT]); try exact rfl
    apply al_stepN
    · first | exact op_nilCheck_ptr (by rfl) | exact op_nilCheck_elt (by rfl)
    · rfl
    · (try dsimp only [zS, zN, zH, zT]); try exact rfl
    apply al_stepN
    · first | exact op_fieldAddr_ptr Try.underlying150 rfl Sz9 (by rfl) (by rfl) | exact op_fieldAddr_elt Try.underlying150 rfl Sz9 (by rfl) (by rfl) (by rfl)
    · rfl
    · (try dsimp only [zS, zN, zH, zT]); try exact rfl
    apply al_stepN
    · first | exact op_load_elt Try.underlying9 (by rfl) (by rfl) (by rfl) | exact op_load_ptr Try.underlying9 (by rfl) (by rfl) hb (by rfl)
    · rfl
    · (try dsimp only [zS, zN, zH, zT]); try exact rfl
    apply al_stepN
    · exact op_eqS (by rfl) (by rfl)
    · rfl
    · (try dsimp only [zS, zN, zH, zT]); try exact rfl
    apply al_stepN
    · exact op_move_tmp (by rfl)
    · rfl
    · (try dsimp only [zS, zN, zH, zT]); try exact rfl
    refine al_split 17 rfl (fun hg2 => ?_) (fun hg2 => ?_)
    · skip
      (try simp only [decide_eq_true_eq, decide_eq_false_iff_not, beq_iff_eq, beq_eq_false_iff_ne, Bool.not_eq_true', Bool.not_eq_false', bne_iff_ne, ne_eq, Decidable.not_not, bne_eq_false_iff_eq, List.length_map] at hg2)
      have hs0 : s = [] := hg2
      subst hs0
      apply al_normT
      · (try dsimp only [zS, zN, zH, zT]); try exact rfl
      refine al_unwanted rfl rfl rfl rfl ?_
      apply al_normT
      · (try dsimp only [zS, zN, zH, zT]); try exact rfl
      refine al_unwanted rfl rfl rfl rfl ?_
      apply al_normT
      · (try dsimp only [zS, zN, zH, zT]); try exact rfl
      refine al_unwanted rfl rfl rfl rfl ?_
      apply al_normT
      · (try dsimp only [zS, zN, zH, zT]); try exact rfl
      refine al_unwanted rfl rfl rfl rfl ?_
      apply al_normT
      · (try dsimp only [zS, zN, zH, zT]); try exact rfl
      refine al_unwanted rfl rfl rfl rfl ?_
      apply al_normT
      · (try dsimp only [zS, zN, zH, zT]); try exact rfl
      refine al_unwanted rfl rfl rfl rfl ?_
      apply al_normT
      · (try dsimp only [zS, zN, zH, zT]); try exact rfl
      apply al_stepN
      · exact op_pick_tt (by rfl) (val_const (by rfl))
      · rfl
      · (try dsimp only [zS, zN, zH, zT]); try exact rfl
      apply al_end
      · (try dsimp only [zS, zN, zH, zT]); try exact rfl
      refine then_normal ?_
      refine aw_cond rfl (fun _ => ?_) (fun h => by cases h)
      refine aw_seq ?_
      refine aw_region ?_
      apply al_stepN
      · exact op_move_tmp (by rfl)
      · rfl
      · (try dsimp only [zS, zN, zH, zT]); try exact rfl
      apply al_stepN
      · exact op_callF Try.func93 (by rfl) (by rfl) (.tmp (by rfl) .nil) (fail_ok _ id _ _ hb)
      · rfl
      · (try dsimp only [zS, zN, zH, zT]); try exact rfl
      apply al_end
      · (try dsimp only [zS, zN, zH, zT]); try exact rfl
      refine then_normal ?_
      refine aw_seq ?_
      refine aw_region ?_
      apply al_stepN
      · exact op_assign_const (by rfl)
      · rfl
      · (try dsimp only [zS, zN, zH, zT]); try exact rfl
      apply al_end
      · (try dsimp only [zS, zN, zH, zT]); try exact rfl
      refine then_normal ?_
      refine aw_ret ?_
      refine then_ret ?_
      refine retPost1 rfl rfl ?_
      exact ⟨rfl, rfl⟩
    · skip
      (try simp only [decide_eq_true_eq, decide_eq_false_iff_not, beq_iff_eq, beq_eq_false_iff_ne, Bool.not_eq_true', Bool.not_eq_false', bne_iff_ne, ne_eq, Decidable.not_not, bne_eq_false_iff_eq, List.length_map] at hg2)
      obtain ⟨c, r, rfl⟩ := List.exists_cons_of_ne_nil hg2
      have hcl := c.toNat_lt
      apply al_normT
      · (try dsimp only [zS, zN, zH, zT]); try exact rfl
      apply al_wantedN
      · rfl
      · rfl
      · rfl
      · exact op_move_tmp (by rfl)
      · (try dsimp only [zS, zN, zH, zT]); try exact rfl
      apply al_wantedN
      · rfl
      · rfl
      · rfl
      · first | exact op_nilCheck_ptr (by rfl) | exact op_nilCheck_elt (by rfl)
      · (try dsimp only [zS, zN, zH, zT]); try exact rfl
      apply al_wantedN
      · rfl
      · rfl
      · rfl
      · first | exact op_fieldAddr_ptr Try.underlying150 rfl Sz9 (by rfl) (by rfl) | exact op_fieldAddr_elt Try.underlying150 rfl Sz9 (by rfl) (by rfl) (by rfl)
      · (try dsimp only [zS, zN, zH, zT]); try exact rfl
      apply al_wantedN
      · rfl
      · rfl
      · rfl
      · first | exact op_load_elt Try.underlying9 (by rfl) (by rfl) (by rfl) | exact op_load_ptr Try.underlying9 (by rfl) (by rfl) hb (by rfl)
      · (try dsimp only [zS, zN, zH, zT]); try exact rfl
      apply al_wantedN
      · rfl
      · rfl
      · rfl
      · exact op_indexS Try.underlying9 (by rfl) (by rfl) (by decide) (show (c :: r)[(0 : Int).toNat]? = some c by rfl)
      · (try dsimp only [zS, zN, zH, zT]); try exact rfl
      apply al_wantedN
      · rfl
      · rfl
      · rfl
      · exact op_gtI (by rfl) (by rfl)
      · (try dsimp only [zS, zN, zH, zT]); try exact rfl
      apply al_stepN
      · exact op_pick_ff (by rfl) (val_tmp (by rfl))
      · rfl
      · (try dsimp only [zS, zN, zH, zT]); try exact rfl
      apply al_end
      · (try dsimp only [zS, zN, zH, zT]); try exact rfl
      refine then_normal ?_
      refine aw_cond rfl (fun hc4 => ?_) (fun hc4 => ?_)
      · skip
        (try simp only [decide_eq_true_eq, decide_eq_false_iff_not, beq_iff_eq, beq_eq_false_iff_ne, Bool.not_eq_true', Bool.not_eq_false', bne_iff_ne, ne_eq, Decidable.not_not, bne_eq_false_iff_eq, List.length_map] at hc4)
        have h1 : 1 < (c.toNat : Int) := hc4
        refine aw_seq ?_
        refine aw_region ?_
        apply al_stepN
        · exact op_move_tmp (by rfl)
        · rfl
        · (try dsimp only [zS, zN, zH, zT]); try exact rfl
        apply al_stepN
        · exact op_callF Try.func93 (by rfl) (by rfl) (.tmp (by rfl) .nil) (fail_ok _ id _ _ hb)
        · rfl
        · (try dsimp only [zS, zN, zH, zT]); try exact rfl
        apply al_end
        · (try dsimp only [zS, zN, zH, zT]); try exact rfl
        refine then_normal ?_
        refine aw_seq ?_
        refine aw_region ?_
        apply al_stepN
        · exact op_assign_const (by rfl)
        · rfl
        · (try dsimp only [zS, zN, zH, zT]); try exact rfl
        apply al_end
        · (try dsimp only [zS, zN, zH, zT]); try exact rfl
        refine then_normal ?_
        refine aw_ret ?_
        refine then_ret ?_
        refine retPost1 rfl rfl ?_
        have e : rFlag (c :: r, false) = (false, ([], true)) := by simp [rFlag, show 1 < c.toNat by omega]
        rw [e]; exact ⟨rfl, rfl⟩
      · skip
        (try simp only [decide_eq_true_eq, decide_eq_false_iff_not, beq_iff_eq, beq_eq_false_iff_ne, Bool.not_eq_true', Bool.not_eq_false', bne_iff_ne, ne_eq, Decidable.not_not, bne_eq_false_iff_eq, List.length_map] at hc4)
        have h1 : ¬ 1 < (c.toNat : Int) := hc4
        refine aw_skip ?_
        refine then_normal ?_
        refine aw_seq ?_
        refine aw_region ?_
        apply al_stepN
        · exact op_move_tmp (by rfl)
        · rfl
        · (try dsimp only [zS, zN, zH, zT]); try exact rfl
        apply al_stepN
        · first | exact op_nilCheck_ptr (by rfl) | exact op_nilCheck_elt (by rfl)
        · rfl
        · (try dsimp only [zS, zN, zH, zT]); try exact rfl
        apply al_stepN
        · first | exact op_fieldAddr_ptr Try.underlying150 rfl Sz9 (by rfl) (by rfl) | exact op_fieldAddr_elt Try.underlying150 rfl Sz9 (by rfl) (by rfl) (by rfl)
        · rfl
        · (try dsimp only [zS, zN, zH, zT]); try exact rfl
        apply al_stepN
        · first | exact op_load_elt Try.underlying9 (by rfl) (by rfl) (by rfl) | exact op_load_ptr Try.underlying9 (by rfl) (by rfl) hb (by rfl)
        · rfl
        · (try dsimp only [zS, zN, zH, zT]); try exact rfl
        apply al_stepN
        · exact op_indexS Try.underlying9 (by rfl) (by rfl) (by decide) (show (c :: r)[(0 : Int).toNat]? = some c by rfl)
        · rfl
        · (try dsimp only [zS, zN, zH, zT]); try exact rfl
        apply al_stepN
        · exact op_eqI (by rfl) (by rfl)
        · rfl
        · (try dsimp only [zS, zN, zH, zT]); try exact rfl
        apply al_stepN
        · exact op_assign_tmp (by rfl)
        · rfl
        · (try dsimp only [zS, zN, zH, zT]); try exact rfl
        apply al_end
        · (try dsimp only [zS, zN, zH, zT]); try exact rfl
        refine then_normal ?_
        refine aw_seq ?_
        refine aw_region ?_
        apply al_stepN
        · exact op_move_tmp (by rfl)
        · rfl
        · (try dsimp only [zS, zN, zH, zT]); try exact rfl
        apply al_stepN
        · exact op_move_tmp (by rfl)
        · rfl
        · (try dsimp only [zS, zN, zH, zT]); try exact rfl
        apply al_stepN
        · first | exact op_nilCheck_ptr (by rfl) | exact op_nilCheck_elt (by rfl)
        · rfl
        · (try dsimp only [zS, zN, zH, zT]); try exact rfl
        apply al_stepN
        · first | exact op_fieldAddr_ptr Try.underlying150 rfl Sz9 (by rfl) (by rfl) | exact op_fieldAddr_elt Try.underlying150 rfl Sz9 (by rfl) (by rfl) (by rfl)
        · rfl
        · (try dsimp only [zS, zN, zH, zT]); try exact rfl
        apply al_stepN
        · first | exact op_load_elt Try.underlying9 (by rfl) (by rfl) (by rfl) | exact op_load_ptr Try.underlying9 (by rfl) (by rfl) hb (by rfl)
        · rfl
        · (try dsimp only [zS, zN, zH, zT]); try exact rfl
        apply al_stepN
        · exact op_sliceS1 r Try.underlying9 (by rfl) (by rfl) (by decide) (by simp; omega) (by rfl)
        · rfl
        · (try dsimp only [zS, zN, zH, zT]); try exact rfl
        apply al_stepN
        · first | exact op_nilCheck_ptr (by rfl) | exact op_nilCheck_elt (by rfl)
        · rfl
        · (try dsimp only [zS, zN, zH, zT]); try exact rfl
        apply al_stepN
        · first | exact op_fieldAddr_ptr Try.underlying150 rfl Sz9 (by rfl) (by rfl) | exact op_fieldAddr_elt Try.underlying150 rfl Sz9 (by rfl) (by rfl) (by rfl)
        · rfl
        · (try dsimp only [zS, zN, zH, zT]); try exact rfl
        apply al_stepN
        · exact op_storeB (vs := [.d (S r)]) (b' := ⟨150, [.d (S r), .d (TF false)], false⟩) (H' := Hs.setB id ⟨150, [.d (S r), .d (TF false)], false⟩) Sz9 (by rfl) hb (by intro h; cases h) (by rfl) (by rfl) (Nat.le_of_ble_eq_true rfl) (by simp [AV.one, DV.one, TF, S, I, BY]) (by rfl) (by rfl) rfl
        · rfl
        · (try dsimp only [zS, zN, zH, zT]); try exact rfl
        apply al_end
        · (try dsimp only [zS, zN, zH, zT]); try exact rfl
        refine then_normal ?_
        refine aw_seq ?_
        refine aw_region ?_
        apply al_stepN
        · exact op_move_tmp (by rfl)
        · rfl
        · (try dsimp only [zS, zN, zH, zT]); try exact rfl
        apply al_stepN
        · exact op_assign_tmp (by rfl)
        · rfl
        · (try dsimp only [zS, zN, zH, zT]); try exact rfl
        apply al_end
        · (try dsimp only [zS, zN, zH, zT]); try exact rfl
        refine then_normal ?_
        refine aw_ret ?_
        refine retPost1 rfl rfl ?_
        have e : rFlag (c :: r, false) = (((c.toNat : Int) == 1), (r, false)) := by simp only [rFlag, Bool.false_eq_true, if_false, show ¬ 1 < c.toNat by omega]; rw [flag_eq]
        rw [e]; exact ⟨rfl, rfl⟩
/- What is left, and whether a reader has failed. -/
set_option maxRecDepth 100000 in
theorem left_ok (Hs : HS) (id : Nat) (s : List UInt8) (bad : Bool) (hb : Hs.blks[id]? = some (RB 150 (s, bad))) : ACalls Try.prog 94 [.ptr id 0] Hs (Ret (.d (I s.length)) Hs) := by
  have hb : Hs.blks[id]? = some ⟨150, [.d (S s), .d (TF bad)], false⟩ := hb
  refine acalls_of_aw Try.func94 rfl ?_
  refine aw_start (T' := [.ptr id 0, .un, .un, .un, .un, .un, .un, .un, .un, .un]) rfl ?_
  refine aw_seq ?_
  refine aw_region ?_
  apply al_stepN
  · exact op_assign_const (by rfl)
  · rfl
  · (try dsimp only [zS, zN, zH, zT]); try exact rfl
  apply al_end
  · (try dsimp only [zS, zN, zH, zT]); try exact rfl
  refine then_normal ?_
  refine aw_seq ?_
  refine aw_seq ?_
  refine aw_region ?_
  apply al_stepN
  · exact op_move_tmp (by rfl)
  · rfl
  · (try dsimp only [zS, zN, zH, zT]); try exact rfl
  apply al_stepN
  · exact op_ptr_nil Try.underlying91 (by rfl) (by rfl)
  · rfl
  · (try dsimp only [zS, zN, zH, zT]); try exact rfl
  apply al_end
  · (try dsimp only [zS, zN, zH, zT]); try exact rfl
  refine then_normal ?_
  refine aw_cond rfl (fun hc1 => ?_) (fun hc1 => ?_)
  · skip
    (try simp only [decide_eq_true_eq, decide_eq_false_iff_not, beq_iff_eq, beq_eq_false_iff_ne, Bool.not_eq_true', Bool.not_eq_false', bne_iff_ne, ne_eq, Decidable.not_not, bne_eq_false_iff_eq, List.length_map] at hc1)
    exact absurd hc1 (by decide)
  · skip
    (try simp only [decide_eq_true_eq, decide_eq_false_iff_not, beq_iff_eq, beq_eq_false_iff_ne, Bool.not_eq_true', Bool.not_eq_false', bne_iff_ne, ne_eq, Decidable.not_not, bne_eq_false_iff_eq, List.length_map] at hc1)
    refine aw_skip ?_
    refine then_normal ?_
    refine aw_seq ?_
    refine aw_region ?_
    apply al_stepN
    · exact op_move_tmp (by rfl)
    · rfl
    · (try dsimp only [zS, zN, zH, zT]); try exact rfl
    apply al_stepN
    · first | exact op_nilCheck_ptr (by rfl) | exact op_nilCheck_elt (by rfl)
    · rfl
    · (try dsimp only [zS, zN, zH, zT]); try exact rfl
    apply al_stepN
    · first | exact op_fieldAddr_ptr Try.underlying150 rfl Sz9 (by rfl) (by rfl) | exact op_fieldAddr_elt Try.underlying150 rfl Sz9 (by rfl) (by rfl) (by rfl)
    · rfl
    · (try dsimp only [zS, zN, zH, zT]); try exact rfl
    apply al_stepN
    · first | exact op_load_elt Try.underlying9 (by rfl) (by rfl) (by rfl) | exact op_load_ptr Try.underlying9 (by rfl) (by rfl) hb (by rfl)
    · rfl
    · (try dsimp only [zS, zN, zH, zT]); try exact rfl
    apply al_stepN
    · exact op_lenS Try.underlying9 (by rfl)
    · rfl
    · (try dsimp only [zS, zN, zH, zT]); try exact rfl
    apply al_stepN
    · exact op_assign_tmp (by rfl)
    · rfl
    · (try dsimp only [zS, zN, zH, zT]); try exact rfl
    apply al_end
    · (try dsimp only [zS, zN, zH, zT]); try exact rfl
    refine then_normal ?_
    refine aw_ret ?_
    refine retPost1 rfl rfl ?_
    exact ⟨rfl, rfl⟩
set_option maxRecDepth 100000 in
theorem err_ok (Hs : HS) (id : Nat) (s : List UInt8) (bad : Bool) (hb : Hs.blks[id]? = some (RB 150 (s, bad))) : ACalls Try.prog 95 [.ptr id 0] Hs (Ret (.d (I (rErr (s, bad)))) Hs) := by
  have hb : Hs.blks[id]? = some ⟨150, [.d (S s), .d (TF bad)], false⟩ := hb
  refine acalls_of_aw Try.func95 rfl ?_
  refine aw_start (T' := [.ptr id 0, .un, .un, .un, .un, .un, .un, .un, .un, .un, .un]) rfl ?_
  refine aw_seq ?_
  refine aw_region ?_
  apply al_stepN
  · exact op_assign_const (by rfl)
  · rfl
  · (try dsimp only [zS, zN, zH, zT]); try exact rfl
  apply al_end
  · (try dsimp only [zS, zN, zH, zT]); try exact rfl
  refine then_normal ?_
  refine aw_seq ?_
  refine aw_seq ?_
  refine aw_region ?_
  apply al_stepN
  · exact op_move_tmp (by rfl)
  · rfl
  · (try dsimp only [zS, zN, zH, zT]); try exact rfl
  apply al_stepN
  · exact op_ptr_nil Try.underlying91 (by rfl) (by rfl)
  · rfl
  · (try dsimp only [zS, zN, zH, zT]); try exact rfl
  apply al_stepN
  · exact op_move_tmp (by rfl)
  · rfl
  · (try dsimp only [zS, zN, zH, zT]); try exact rfl
  apply al_wantedN
  · rfl
  · rfl
  · rfl
  · exact op_move_tmp (by rfl)
  · (try dsimp only [zS, zN, zH, zT]); try exact rfl
  apply al_wantedN
  · rfl
  · rfl
  · rfl
  · first | exact op_nilCheck_ptr (by rfl) | exact op_nilCheck_elt (by rfl)
  · (try dsimp only [zS, zN, zH, zT]); try exact rfl
  apply al_wantedN
  · rfl
  · rfl
  · rfl
  · first | exact op_fieldAddr_ptr Try.underlying150 rfl Sz4 (by rfl) (by rfl) | exact op_fieldAddr_elt Try.underlying150 rfl Sz4 (by rfl) (by rfl) (by rfl)
  · (try dsimp only [zS, zN, zH, zT]); try exact rfl
  apply al_wantedN
  · rfl
  · rfl
  · rfl
  · first | exact op_load_elt Try.underlying4 (by rfl) (by rfl) (by rfl) | exact op_load_ptr Try.underlying4 (by rfl) (by rfl) hb (by rfl)
  · (try dsimp only [zS, zN, zH, zT]); try exact rfl
  apply al_stepN
  · exact op_pick_ff (by rfl) (val_tmp (by rfl))
  · rfl
  · (try dsimp only [zS, zN, zH, zT]); try exact rfl
  apply al_end
  · (try dsimp only [zS, zN, zH, zT]); try exact rfl
  refine then_normal ?_
  refine aw_cond rfl (fun hc1 => ?_) (fun hc1 => ?_)
  · skip
    (try simp only [decide_eq_true_eq, decide_eq_false_iff_not, beq_iff_eq, beq_eq_false_iff_ne, Bool.not_eq_true', Bool.not_eq_false', bne_iff_ne, ne_eq, Decidable.not_not, bne_eq_false_iff_eq, List.length_map] at hc1)
    have hbad : bad = true := hc1
    subst hbad
    refine aw_seq ?_
    refine aw_region ?_
    apply al_stepN
    · exact op_assign_const (by rfl)
    · rfl
    · (try dsimp only [zS, zN, zH, zT]); try exact rfl
    apply al_end
    · (try dsimp only [zS, zN, zH, zT]); try exact rfl
    refine then_normal ?_
    refine aw_ret ?_
    refine then_ret ?_
    refine retPost1 rfl rfl ?_
    exact ⟨rfl, rfl⟩
  · skip
    (try simp only [decide_eq_true_eq, decide_eq_false_iff_not, beq_iff_eq, beq_eq_false_iff_ne, Bool.not_eq_true', Bool.not_eq_false', bne_iff_ne, ne_eq, Decidable.not_not, bne_eq_false_iff_eq, List.length_map] at hc1)
    have hbad : bad = false := hc1
    subst hbad
    refine aw_skip ?_
    refine then_normal ?_
    refine aw_seq ?_
    refine aw_region ?_
    apply al_stepN
    · exact op_assign_const (by rfl)
    · rfl
    · (try dsimp only [zS, zN, zH, zT]); try exact rfl
    apply al_end
    · (try dsimp only [zS, zN, zH, zT]); try exact rfl
    refine then_normal ?_
    refine aw_ret ?_
    refine retPost1 rfl rfl ?_
    exact ⟨rfl, rfl⟩
set_option maxRecDepth 100000 in
theorem end_ok (Hs : HS) (id : Nat) (s : List UInt8) (bad : Bool) (hb : Hs.blks[id]? = some (RB 150 (s, bad))) : ACalls Try.prog 59 [.ptr id 0] Hs (Ret (.d (I (rEnd (s, bad)))) Hs) := by
  refine acalls_of_aw Try.func59 rfl ?_
  refine aw_start (T' := [.ptr id 0, .un, .un, .un, .un, .un, .un, .un]) rfl ?_
  refine aw_seq ?_
  refine aw_region ?_
  apply al_stepN
  · exact op_assign_const (by rfl)
  · rfl
  · (try dsimp only [zS, zN, zH, zT]); try exact rfl
  apply al_end
  · (try dsimp only [zS, zN, zH, zT]); try exact rfl
  refine then_normal ?_
  refine aw_seq ?_
  refine aw_seq ?_
  refine aw_region ?_
  apply al_stepN
  · exact op_move_tmp (by rfl)
  · rfl
  · (try dsimp only [zS, zN, zH, zT]); try exact rfl
  apply al_stepN
  · exact op_callF Try.func94 (by rfl) (by rfl) (.tmp (by rfl) .nil) (left_ok _ id s bad hb)
  · rfl
  · (try dsimp only [zS, zN, zH, zT]); try exact rfl
  apply al_stepN
  · exact op_gtI (by rfl) (by rfl)
  · rfl
  · (try dsimp only [zS, zN, zH, zT]); try exact rfl
  apply al_end
  · (try dsimp only [zS, zN, zH, zT]); try exact rfl
  refine then_normal ?_
  refine aw_cond rfl (fun hc1 => ?_) (fun hc1 => ?_)
  · skip
    (try simp only [decide_eq_true_eq, decide_eq_false_iff_not, beq_iff_eq, beq_eq_false_iff_ne, Bool.not_eq_true', Bool.not_eq_false', bne_iff_ne, ne_eq, Decidable.not_not, bne_eq_false_iff_eq, List.length_map] at hc1)
    have hl : 0 < s.length := by omega
    refine aw_seq ?_
    refine aw_region ?_
    apply al_stepN
    · exact op_assign_const (by rfl)
    · rfl
    · (try dsimp only [zS, zN, zH, zT]); try exact rfl
    apply al_end
    · (try dsimp only [zS, zN, zH, zT]); try exact rfl
    refine then_normal ?_
    refine aw_ret ?_
    refine then_ret ?_
    refine retPost1 rfl rfl ?_
    simp only [rEnd, hl, if_true]; exact ⟨rfl, rfl⟩
  · skip
    (try simp only [decide_eq_true_eq, decide_eq_false_iff_not, beq_iff_eq, beq_eq_false_iff_ne, Bool.not_eq_true', Bool.not_eq_false', bne_iff_ne, ne_eq, Decidable.not_not, bne_eq_false_iff_eq, List.length_map] at hc1)
    have hl : ¬ 0 < s.length := by omega
    refine aw_skip ?_
    refine then_normal ?_
    refine aw_seq ?_
    refine aw_region ?_
    apply al_stepN
    · exact op_move_tmp (by rfl)
    · rfl
    · (try dsimp only [zS, zN, zH, zT]); try exact rfl
    apply al_stepN
    · exact op_callF Try.func95 (by rfl) (by rfl) (.tmp (by rfl) .nil) (err_ok _ id s bad hb)
    · rfl
    · (try dsimp only [zS, zN, zH, zT]); try exact rfl
    apply al_stepN
    · exact op_assign_tmp (by rfl)
    · rfl
    · (try dsimp only [zS, zN, zH, zT]); try exact rfl
    apply al_end
    · (try dsimp only [zS, zN, zH, zT]); try exact rfl
    refine then_normal ?_
    refine aw_ret ?_
    refine retPost1 rfl rfl ?_
    simp only [rEnd, hl, if_false]; exact ⟨rfl, rfl⟩
/- A new reader. -/
set_option maxRecDepth 100000 in
theorem read_ok (Hs : HS) (s : List UInt8) : ACalls Try.prog 55 [.d (S s)] Hs (Ret (.ptr Hs.nb 0) (Hs.push 150 [.d (S s), .d (TF false)])) := by
  refine acalls_of_aw Try.func55 rfl ?_
  refine aw_start (T' := [.d (S s), .un, .un, .un, .un, .un]) rfl ?_
  refine aw_seq ?_
  refine aw_region ?_
  apply al_stepN
  · exact op_assign_const (by rfl)
  · rfl
  · (try dsimp only [zS, zN, zH, zT]); try exact rfl
  apply al_end
  · (try dsimp only [zS, zN, zH, zT]); try exact rfl
  refine then_normal ?_
  refine aw_seq ?_
  refine aw_region ?_
  apply al_stepN
  · exact op_move_tmp (by rfl)
  · rfl
  · (try dsimp only [zS, zN, zH, zT]); try exact rfl
  apply al_stepN
  · first | exact op_buildD (pl := [(0, 1), (1, 1)]) _ Try.underlying150 Zr150 (by kernel_rfl) (by rfl) (by rfl) (by rfl) (by simp [DV.one, S, I, TF, BY]) | exact op_build (pl := [(0, 1), (1, 1)]) Try.underlying150 Zr150 (by kernel_rfl) (by rfl) (by rfl) (by rfl)
  · rfl
  · (try dsimp only [zS, zN, zH, zT]); try exact rfl
  apply al_stepN
  · exact op_box_ptr (by intro h; cases h) (by rfl)
  · rfl
  · (try dsimp only [zS, zN, zH, zT]); try exact rfl
  apply al_stepN
  · exact op_assign_tmp (by rfl)
  · rfl
  · (try dsimp only [zS, zN, zH, zT]); try exact rfl
  apply al_end
  · (try dsimp only [zS, zN, zH, zT]); try exact rfl
  refine then_normal ?_
  refine aw_ret ?_
  refine retPost1 rfl rfl ?_
  exact ⟨rfl, rfl⟩
end Go.Proofs.Ytadkehaagkjbhaa
