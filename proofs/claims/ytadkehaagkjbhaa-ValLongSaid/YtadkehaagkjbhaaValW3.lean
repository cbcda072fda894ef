/- What the function of layer 2 that decodes comes to. -/
import Derived.Test.YtadkehaagkjbhaaValW2
import Derived.KernelRfl
namespace Go.Proofs.Ytadkehaagkjbhaa
open Go.AV Go.AV.Ord Go.AV.Oct Go.AV.Val
set_option linter.unusedVariables false
set_option linter.unusedSimpArgs false
/- A value is read, however deep. -/
theorem val_ok : ∀ (D : Nat), D ≤ 1000 → ∀ (Hs : HS) (rid q : Nat) (st : DS), Rd Hs 150 144 rid q st → ACalls Try.prog 88 [.ptr q 0, .d (I D)] Hs (Ret (.d (.agg (vC (rV D st).1))) (stH Hs 150 144 rid q (rV D st).2))
  | 0, hD, Hs, rid, q, ((s, bad), e), h => val_step Hs rid q 0 s bad e h hD (fun _ h => by cases h)
  | D + 1, hD, Hs, rid, q, ((s, bad), e), h => val_step Hs rid q (D + 1) s bad e h hD (fun d hd Hs st h => by
      cases hd
      exact val_ok D (by omega) Hs rid q st h)
/- Bytes as a value. -/
set_option maxRecDepth 100000 in
theorem vdec_ok (Hs : HS) (s : List UInt8) : ACalls Try.prog 44 [.d (S s)] Hs (Ret (.tup [.d (.agg (vC (decV s).1)), .d (I (decV s).2)]) Hs) := by
  refine ACalls.tidyT (xs := [.agg (vC (decV s).1), I (decV s).2]) ?_
  suffices h : ACalls Try.prog 44 [.d (S s)] Hs (fun av H' => ∃ x, av = .tup [x, .d (I (decV s).2)] ∧ Weak x (.d (.agg (vC (decV s).1))) ∧ Ext Hs H') from h.weak fun v H' ⟨x, h1, h2, h3⟩ => ⟨_, by rw [h1]; exact Weak.tup (.cons h2 (.cons (Weak.refl _) .nil)), rfl, h3⟩
  obtain ⟨v, st, hr⟩ : ∃ v st, rV 32 ((s, false), 0) = (v, st) := ⟨_, _, rfl⟩
  refine acalls_of_awC Try.func44 rfl ?_
  refine aw_start (T' := [.d (S s), .un, .un, .un, .un, .un, .un, .un, .un, .un, .un, .un, .un, .un, .un, .un, .un, .un, .un, .un, .un, .un, .un, .un, .un, .un, .un, .un, .un, .un, .un, .un, .un, .un, .un, .un]) rfl ?_
  refine aw_seq ?_
  refine aw_region ?_
  apply al_stepN
  · exact op_alloc (Zr37) (by rfl)
  · rfl
  · (try dsimp only [zS, zN, zH, zT]); try exact rfl
  apply al_stepN
  · exact op_assign_const (by rfl)
  · rfl
  · (try dsimp only [zS, zN, zH, zT]); try exact rfl
  apply al_end
  · (try dsimp only [zS, zN, zH, zT]); try exact rfl
  refine then_normal ?_
  refine aw_seq ?_
  refine aw_seq ?_
  refine aw_region ?_
  apply al_stepN
  · exact op_move_tmp (by rfl)
  · rfl
  · (try dsimp only [zS, zN, zH, zT]); try exact rfl
  apply al_stepN
  · exact op_lenS Try.underlying9 (by rfl)
  · rfl
  · (try dsimp only [zS, zN, zH, zT]); try exact rfl
  apply al_stepN
  · exact op_gtI (by rfl) (by rfl)
  · rfl
  · (try dsimp only [zS, zN, zH, zT]); try exact rfl
  apply al_end
  · (try dsimp only [zS, zN, zH, zT]); try exact rfl
  refine then_normal ?_
  refine aw_cond rfl (fun hc1 => ?_) (fun hc1 => ?_)
  · skip
    (try simp only [decide_eq_true_eq, decide_eq_false_iff_not, beq_iff_eq, beq_eq_false_iff_ne, Bool.not_eq_true', Bool.not_eq_false', bne_iff_ne, ne_eq, Decidable.not_not, bne_eq_false_iff_eq, List.length_map] at hc1)
    have hlong : 4096 < s.length := by omega
    have ed : decV s = (V0, 4) := by simp [decV, hlong]
    refine aw_seq ?_
    refine aw_region ?_
    apply al_stepN
    · exact op_build (pl := [(0, 1), (1, 1), (2, 1), (3, 1), (4, 1), (5, 1)]) Try.underlying37 Zr37 (by kernel_rfl) (by rfl) (by rfl) (by rfl)
    · rfl
    · (try dsimp only [zS, zN, zH, zT]); try exact rfl
    apply al_stepN
    · exact op_storeB (vs := (vs6 0 false 0 [] nilS nilS)) (b' := (vBlk 37 0 false 0 [] nilS nilS)) (H' := _) Sz37 (by rfl) push_at (by intro h; cases h) (by rfl) (by rfl) (Nat.le_of_ble_eq_true rfl) (by simp [AV.one, DV.one, TF, S, I, BY]) (by rfl) (by rfl) rfl
    · rfl
    · (try dsimp only [zS, zN, zH, zT]); try exact rfl
    apply al_stepN
    · exact op_assign_const (by rfl)
    · rfl
    · (try dsimp only [zS, zN, zH, zT]); try exact rfl
    apply al_end
    · (try dsimp only [zS, zN, zH, zT]); try exact rfl
    refine then_normal ?_
    refine aw_ret ?_
    refine then_ret ?_
    refine retC2 rfl (.cells Try.underlying37 (by rfl) Sz37 (by rfl) (setB_at push_at) (Nat.le_of_ble_eq_true rfl) (by rfl)) (.tmp (by rfl)) ?_
    exact ⟨_, by (rw [ed]) <;> rfl, by rw [ed]; exact Weak.aggD (weak6 weak_nilL weak_nilF) (vC_one V0), ((Ext.refl Hs).push _ _).setB (Nat.le_refl _)⟩
  · skip
    (try simp only [decide_eq_true_eq, decide_eq_false_iff_not, beq_iff_eq, beq_eq_false_iff_ne, Bool.not_eq_true', Bool.not_eq_false', bne_iff_ne, ne_eq, Decidable.not_not, bne_eq_false_iff_eq, List.length_map] at hc1)
    have hlong : ¬ 4096 < s.length := by omega
    refine aw_skip ?_
    refine then_normal ?_
    apply aw_cutF (fun T H => ∃ (u : Unit), T = [.d (S s), .un, .ptr Hs.nb 0, .d (I 0), .ptr (Hs.nb + 2) 0, .un, .un, .un, .un, .un, .un, .un, .un, .un, .un, .un, .un, .un, .un, .un, .un, .un, .un, .un, .un, .un, .un, .un, .un, .un, .un, .un, .un, .un, .un, .un] ∧ Rd H 150 144 (Hs.nb + 1) (Hs.nb + 2) ((s, false), 0) ∧ H.blks[Hs.nb]? = some (vBlk 37 0 false 0 [] nilS nilS) ∧ Ext Hs H)
    · skip
      refine aw_region ?_
      apply al_stepN
      · exact op_move_tmp (by rfl)
      · rfl
      · (try dsimp only [zS, zN, zH, zT]); try exact rfl
      apply al_stepN
      · exact op_callF Try.func55 (by rfl) (by rfl) (.tmp (by rfl) .nil) (read_ok _ s)
      · rfl
      · (try dsimp only [zS, zN, zH, zT]); try exact rfl
      apply al_stepN
      · first | exact op_buildD (pl := [(0, 1), (1, 1)]) _ Try.underlying144 Zr144 (by kernel_rfl) (by rfl) (by rfl) (by rfl) (by simp [DV.one, S, I, TF, BY]) | exact op_build (pl := [(0, 1), (1, 1)]) Try.underlying144 Zr144 (by kernel_rfl) (by rfl) (by rfl) (by rfl)
      · rfl
      · (try dsimp only [zS, zN, zH, zT]); try exact rfl
      apply al_stepN
      · exact op_box_ptr (by intro h; cases h) (by rfl)
      · rfl
      · (try dsimp only [zS, zN, zH, zT]); try exact rfl
      apply al_stepN
      · exact op_assign_tmp (by rfl)
      · rfl
      · (try dsimp only [zS, zN, zH, zT]); try exact rfl
      apply al_end
      · (try dsimp only [zS, zN, zH, zT]); try exact rfl
      have n1 : (Hs.push 37 (vs6 0 false 0 [] nilS nilS)).nb = Hs.nb + 1 := push_nb
      have n2 : ((Hs.push 37 (vs6 0 false 0 [] nilS nilS)).push 150 [.d (S s), .d (TF false)]).nb = Hs.nb + 2 := by rw [push_nb, n1]
      apply cut_to [true, false, true, true, true, false, false, false, false, false, false, false, false, false, false, false, false, false, false, false, false, false, false, false, false, false, false, false, false, false, false, false, false, false, false, false]
      · (try dsimp only [maskT]); try exact rfl
      · rfl
      exact ⟨(), by (simp only [push_nb]) <;> rfl, ⟨by omega, push_ne (by rw [← n1]; exact push_at), by have h := push_at (H := (Hs.push 37 (vs6 0 false 0 [] nilS nilS)).push 150 [.d (S s), .d (TF false)]) (e := 144) (cs := [.ptr (Hs.push 37 (vs6 0 false 0 [] nilS nilS)).nb 0, .d (I 0)]); rw [n2] at h; rw [show VB 144 (Hs.nb + 1) (((s, false), 0) : DS).2 = VB 144 (Hs.push 37 (vs6 0 false 0 [] nilS nilS)).nb 0 by rw [n1]]; exact h⟩, push_ne (push_ne push_at), ((((Ext.refl Hs).push _ _).push _ _).push _ _)⟩
    rintro T H ⟨u, rfl, hrd, hb0, hx5⟩
    apply aw_cutF (fun T H => ∃ (id5 : Nat), T = [.un, .un, .ptr Hs.nb 0, .d (I 0), .ptr (Hs.nb + 2) 0, .ptr id5 0, .un, .un, .un, .un, .un, .un, .un, .un, .un, .un, .un, .un, .un, .un, .un, .un, .un, .un, .un, .un, .un, .un, .un, .un, .un, .un, .un, .un, .un, .un] ∧ Rd H 150 144 (Hs.nb + 1) (Hs.nb + 2) st ∧ H.blks[Hs.nb]? = some (vBlk 37 0 false 0 [] nilS nilS) ∧ Ext Hs H ∧ H.blks[id5]? = some ⟨37, (vC v).map .d, false⟩)
    · skip
      refine aw_region ?_
      apply al_stepN
      · exact op_move_tmp (by rfl)
      · rfl
      · (try dsimp only [zS, zN, zH, zT]); try exact rfl
      apply al_stepN
      · exact op_callF Try.func88 (by rfl) (by rfl) (.tmp (by rfl) (.const (by rfl) .nil)) ((by have h := val_ok 32 (by decide) _ _ _ _ hrd; rwa [hr] at h))
      · rfl
      · (try dsimp only [zS, zN, zH, zT]); try exact rfl
      apply al_stepN
      · exact op_alloc (Zr37) (by rfl)
      · rfl
      · (try dsimp only [zS, zN, zH, zT]); try exact rfl
      apply al_stepN
      · exact op_storeV (b' := ⟨37, (vC v).map .d, false⟩) v Sz37 (by rfl) push_at (by rfl) (Nat.le_of_ble_eq_true rfl) (by rfl) (by rw [vC_eq]; rfl)
      · rfl
      · (try dsimp only [zS, zN, zH, zT]); try exact rfl
      apply al_end
      · (try dsimp only [zS, zN, zH, zT]); try exact rfl
      have hq := lt_nb hrd.q
      apply cut_to [false, false, true, true, true, true, false, false, false, false, false, false, false, false, false, false, false, false, false, false, false, false, false, false, false, false, false, false, false, false, false, false, false, false, false, false]
      · (try dsimp only [maskT]); try exact rfl
      · rfl
      exact ⟨_, rfl, ((hrd.stH st).push).far (by rw [stH_nb]; omega) (by rw [stH_nb]; omega), by rw [setB_ne (by rw [stH_nb]; omega)]; exact push_ne (stH_ne (by omega) (by omega) hb0), (((Ext.stH hx5 (by omega) (by omega)).push _ _).setB (by rw [stH_nb]; omega)), setB_at push_at⟩
    rintro T H ⟨id5, rfl, hrd, hb0, hx5, hb5⟩
    refine aw_seq ?_
    refine aw_block ?_
    refine aw_seq ?_
    refine aw_region ?_
    apply al_stepN
    · exact op_move_tmp (by rfl)
    · rfl
    · (try dsimp only [zS, zN, zH, zT]); try exact rfl
    apply al_stepN
    · first | exact op_nilCheck_ptr (by rfl) | exact op_nilCheck_elt (by rfl)
    · rfl
    · (try dsimp only [zS, zN, zH, zT]); try exact rfl
    apply al_stepN
    · first | exact op_fieldAddr_ptr Try.underlying144 rfl Sz26 (by rfl) (by rfl) | exact op_fieldAddr_elt Try.underlying144 rfl Sz26 (by rfl) (by rfl) (by rfl)
    · rfl
    · (try dsimp only [zS, zN, zH, zT]); try exact rfl
    apply al_stepN
    · first | exact op_load_elt Try.underlying26 (by rfl) (by rfl) (by rfl) | exact op_load_ptr Try.underlying26 (by rfl) (by rfl) (by first | exact hPhi | exact hrd.q) (by rfl)
    · rfl
    · (try dsimp only [zS, zN, zH, zT]); try exact rfl
    apply al_stepN
    · exact op_neI (by rfl) (by rfl)
    · rfl
    · (try dsimp only [zS, zN, zH, zT]); try exact rfl
    apply al_stepN
    · exact op_assign_tmp (by rfl)
    · rfl
    · (try dsimp only [zS, zN, zH, zT]); try exact rfl
    apply al_end
    · (try dsimp only [zS, zN, zH, zT]); try exact rfl
    refine then_normal ?_
    refine aw_cond rfl (fun hc2 => ?_) (fun hc2 => ?_)
    · skip
      (try simp only [decide_eq_true_eq, decide_eq_false_iff_not, beq_iff_eq, beq_eq_false_iff_ne, Bool.not_eq_true', Bool.not_eq_false', bne_iff_ne, ne_eq, Decidable.not_not, bne_eq_false_iff_eq, List.length_map] at hc2)
      have hne : ¬ st.2 = 0 := hc2
      have ed : decV s = (V0, st.2) := by simp [decV, hlong, hr, hne]
      refine aw_seq ?_
      refine aw_drawX (fun K => K.blks[Hs.nb + 2]? = some (VB 144 (Hs.nb + 1) st.2)) [0, 0, 0, 0, 0, 2, 0] mixed (by kernel_rfl) (hrd.q) (.inr (by kernel_rfl)) ?_
      apply drun0X
      · intro H hPhi; exact op_build (pl := [(0, 1), (1, 1), (2, 1), (3, 1), (4, 1), (5, 1)]) Try.underlying37 Zr37 (by kernel_rfl) (by rfl) (by rfl) (by rfl)
      · rfl
      apply drun_normT
      · (try dsimp only [zS, zN, zH, zT]); try exact rfl
      apply drun0X
      · intro H hPhi; exact op_move_tmp (by rfl)
      · rfl
      apply drun_normT
      · (try dsimp only [zS, zN, zH, zT]); try exact rfl
      apply drun0X
      · intro H hPhi; first | exact op_nilCheck_ptr (by rfl) | exact op_nilCheck_elt (by rfl)
      · rfl
      apply drun_normT
      · (try dsimp only [zS, zN, zH, zT]); try exact rfl
      apply drun0X
      · intro H hPhi; first | exact op_fieldAddr_ptr Try.underlying144 rfl Sz26 (by rfl) (by rfl) | exact op_fieldAddr_elt Try.underlying144 rfl Sz26 (by rfl) (by rfl) (by rfl)
      · rfl
      apply drun_normT
      · (try dsimp only [zS, zN, zH, zT]); try exact rfl
      apply drun0X
      · intro H hPhi; first | exact op_load_elt Try.underlying26 (by rfl) (by rfl) (by rfl) | exact op_load_ptr Try.underlying26 (by rfl) (by rfl) (by first | exact hPhi | exact hrd.q) (by rfl)
      · rfl
      apply drun_normT
      · (try dsimp only [zS, zN, zH, zT]); try exact rfl
      apply drun2X
      · exact op_storeB (vs := (vs6 0 false 0 [] nilS nilS)) (b' := (vBlk 37 0 false 0 [] nilS nilS)) (H' := _) Sz37 (by rfl) hb0 (by intro h; cases h) (by rfl) (by rfl) (Nat.le_of_ble_eq_true rfl) (by simp [AV.one, DV.one, TF, S, I, BY]) (by rfl) (by rfl) rfl
      · rfl
      · refine .inr ?_; rw [setB_ne (by omega)]; exact hrd.q
      apply drun_normT
      · (try dsimp only [zS, zN, zH, zT]); try exact rfl
      apply drun0X
      · intro H hPhi; exact op_assign_tmp (by rfl)
      · rfl
      apply drun_normT
      · (try dsimp only [zS, zN, zH, zT]); try exact rfl
      apply drun_end
      · (try dsimp only [zS, zN, zH, zT]); try exact rfl
      refine then_normal ?_
      refine aw_ret ?_
      refine inBlock_ret (then_ret ?_)
      refine retC2 rfl (.cells Try.underlying37 (by rfl) Sz37 (by rfl) (setB_at hb0) (Nat.le_of_ble_eq_true rfl) (by rfl)) (.tmp (by rfl)) ?_
      exact ⟨_, by (rw [ed]) <;> rfl, by rw [ed]; exact Weak.aggD (weak6 weak_nilL weak_nilF) (vC_one V0), hx5.setB (Nat.le_refl _)⟩
    · skip
      (try simp only [decide_eq_true_eq, decide_eq_false_iff_not, beq_iff_eq, beq_eq_false_iff_ne, Bool.not_eq_true', Bool.not_eq_false', bne_iff_ne, ne_eq, Decidable.not_not, bne_eq_false_iff_eq, List.length_map] at hc2)
      have heq : st.2 = 0 := by simpa using hc2
      refine aw_seq ?_
      refine aw_region ?_
      apply al_stepN
      · exact op_move_tmp (by rfl)
      · rfl
      · (try dsimp only [zS, zN, zH, zT]); try exact rfl
      apply al_stepN
      · first | exact op_nilCheck_ptr (by rfl) | exact op_nilCheck_elt (by rfl)
      · rfl
      · (try dsimp only [zS, zN, zH, zT]); try exact rfl
      apply al_stepN
      · first | exact op_fieldAddr_ptr Try.underlying144 rfl Sz91 (by rfl) (by rfl) | exact op_fieldAddr_elt Try.underlying144 rfl Sz91 (by rfl) (by rfl) (by rfl)
      · rfl
      · (try dsimp only [zS, zN, zH, zT]); try exact rfl
      apply al_stepN
      · first | exact op_load_elt Try.underlying91 (by rfl) (by rfl) (by rfl) | exact op_load_ptr Try.underlying91 (by rfl) (by rfl) (by first | exact hPhi | exact hrd.q) (by rfl)
      · rfl
      · (try dsimp only [zS, zN, zH, zT]); try exact rfl
      apply al_stepN
      · exact op_callF Try.func59 (by rfl) (by rfl) (.tmp (by rfl) .nil) (end_ok _ _ _ _ hrd.r)
      · rfl
      · (try dsimp only [zS, zN, zH, zT]); try exact rfl
      apply al_stepN
      · exact op_neI (by rfl) (by rfl)
      · rfl
      · (try dsimp only [zS, zN, zH, zT]); try exact rfl
      apply al_stepN
      · exact op_assign_tmp (by rfl)
      · rfl
      · (try dsimp only [zS, zN, zH, zT]); try exact rfl
      apply al_end
      · (try dsimp only [zS, zN, zH, zT]); try exact rfl
      refine then_normal ?_
      refine aw_cond rfl (fun hc3 => ?_) (fun hc3 => ?_)
      · skip
        (try simp only [decide_eq_true_eq, decide_eq_false_iff_not, beq_iff_eq, beq_eq_false_iff_ne, Bool.not_eq_true', Bool.not_eq_false', bne_iff_ne, ne_eq, Decidable.not_not, bne_eq_false_iff_eq, List.length_map] at hc3)
        have hne : ¬ rEnd st.1 = 0 := hc3
        have ed : decV s = (V0, 2) := by simp [decV, hlong, hr, hne, heq]
        refine aw_seq ?_
        refine aw_region ?_
        apply al_stepN
        · exact op_build (pl := [(0, 1), (1, 1), (2, 1), (3, 1), (4, 1), (5, 1)]) Try.underlying37 Zr37 (by kernel_rfl) (by rfl) (by rfl) (by rfl)
        · rfl
        · (try dsimp only [zS, zN, zH, zT]); try exact rfl
        apply al_stepN
        · exact op_storeB (vs := (vs6 0 false 0 [] nilS nilS)) (b' := (vBlk 37 0 false 0 [] nilS nilS)) (H' := _) Sz37 (by rfl) hb0 (by intro h; cases h) (by rfl) (by rfl) (Nat.le_of_ble_eq_true rfl) (by simp [AV.one, DV.one, TF, S, I, BY]) (by rfl) (by rfl) rfl
        · rfl
        · (try dsimp only [zS, zN, zH, zT]); try exact rfl
        apply al_stepN
        · exact op_assign_const (by rfl)
        · rfl
        · (try dsimp only [zS, zN, zH, zT]); try exact rfl
        apply al_end
        · (try dsimp only [zS, zN, zH, zT]); try exact rfl
        refine then_normal ?_
        refine aw_ret ?_
        refine inBlock_ret (then_ret ?_)
        refine retC2 rfl (.cells Try.underlying37 (by rfl) Sz37 (by rfl) (setB_at hb0) (Nat.le_of_ble_eq_true rfl) (by rfl)) (.tmp (by rfl)) ?_
        exact ⟨_, by (rw [ed]) <;> rfl, by rw [ed]; exact Weak.aggD (weak6 weak_nilL weak_nilF) (vC_one V0), hx5.setB (Nat.le_refl _)⟩
      · skip
        (try simp only [decide_eq_true_eq, decide_eq_false_iff_not, beq_iff_eq, beq_eq_false_iff_ne, Bool.not_eq_true', Bool.not_eq_false', bne_iff_ne, ne_eq, Decidable.not_not, bne_eq_false_iff_eq, List.length_map] at hc3)
        have heq2 : rEnd st.1 = 0 := by simpa using hc3
        have ed : decV s = (v, 0) := by simp [decV, hlong, hr, heq, heq2]
        refine aw_skip ?_
        refine inBlock_normal (then_normal ?_)
        refine aw_seq ?_
        refine aw_region ?_
        apply al_stepN
        · exact op_load_ptrsD (vC v) Try.underlying37 (by rfl) Sz37 (by rfl) hb5 (by show 0 + 6 ≤ ((vC v).map AV.d).length; rw [List.length_map, vC_len]; exact Nat.le_refl _) (by show (((vC v).map AV.d).drop 0).take 6 = _; rw [List.drop_zero, List.take_of_length_le (by rw [List.length_map, vC_len]; exact Nat.le_refl _)]) (vC_one v)
        · rfl
        · (try dsimp only [zS, zN, zH, zT]); try exact rfl
        apply al_stepN
        · exact op_storeV (b' := ⟨37, (vC v).map .d, false⟩) v Sz37 (by rfl) hb0 (by rfl) (Nat.le_of_ble_eq_true rfl) (by rfl) (by rw [vC_eq]; rfl)
        · rfl
        · (try dsimp only [zS, zN, zH, zT]); try exact rfl
        apply al_stepN
        · exact op_assign_const (by rfl)
        · rfl
        · (try dsimp only [zS, zN, zH, zT]); try exact rfl
        apply al_end
        · (try dsimp only [zS, zN, zH, zT]); try exact rfl
        refine then_normal ?_
        refine aw_ret ?_
        refine retC2 rfl (.cells Try.underlying37 (by rfl) Sz37 (by rfl) (setB_at hb0) (by show 0 + 6 ≤ ((vC v).map AV.d).length; rw [List.length_map, vC_len]; exact Nat.le_refl _) (by rfl)) (.tmp (by rfl)) ?_
        exact ⟨_, by (rw [ed]) <;> rfl, by rw [ed]; exact weak_take v, hx5.setB (Nat.le_refl _)⟩
end Go.Proofs.Ytadkehaagkjbhaa
