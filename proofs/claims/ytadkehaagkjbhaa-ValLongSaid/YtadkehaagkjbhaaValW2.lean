/- What the functions of layer 2 that read come to: values. -/
import Derived.Test.YtadkehaagkjbhaaValW1
import Derived.KernelRfl
namespace Go.Proofs.Ytadkehaagkjbhaa
open Go.AV Go.AV.Ord Go.AV.Oct Go.AV.Val
set_option linter.unusedVariables false
set_option linter.unusedSimpArgs false
/- A value is read. -/
set_option maxHeartbeats 2000000 in
set_option maxRecDepth 100000 in
theorem val_step (Hs : HS) (rid q D : Nat) (s : List UInt8) (bad : Bool) (e : Int) (h : Rd Hs 150 144 rid q ((s, bad), e)) (hD : D ≤ 1000) (ih : ∀ d, D = d + 1 → ∀ (Hs : HS) (st : DS), Rd Hs 150 144 rid q st → ACalls Try.prog 88 [.ptr q 0, .d (I d)] Hs (Ret (.d (.agg (vC (rV d st).1))) (stH Hs 150 144 rid q (rV d st).2))) : ACalls Try.prog 88 [.ptr q 0, .d (I D)] Hs (Ret (.d (.agg (vC (rV D ((s, bad), e)).1))) (stH Hs 150 144 rid q (rV D ((s, bad), e)).2)) := by
  refine ACalls.tidy2 (lt_nb h.r) (lt_nb h.q) (by intro v hv; simp at hv; rcases hv with rfl | rfl <;> exact .d _) (by intro v hv; simp at hv; rcases hv with rfl | rfl; exact .ptr _ _ (lt_nb h.r); exact .d _) ?_
  refine acalls_of_awC Try.func88 rfl ?_
  refine aw_start (T' := ((.ptr q 0) :: (.d (I D)) :: .un :: .un :: .un :: .un :: .un :: .un :: .un :: .un :: .un :: .un :: .un :: .un :: .un :: .un :: .un :: .un :: .un :: .un :: .un :: .un :: .un :: .un :: .un :: .un :: .un :: .un :: .un :: .un :: .un :: .un :: .un :: .un :: .un :: .un :: .un :: .un :: .un :: .un :: .un :: .un :: .un :: .un :: .un :: .un :: .un :: .un :: .un :: .un :: .un :: .un :: .un :: .un :: .un :: .un :: .un :: .un :: .un :: .un :: .un :: .un :: .un :: .un :: .un :: .un :: .un :: .un :: .un :: .un :: .un :: .un :: .un :: .un :: .un :: .un :: .un :: .un :: .un :: .un :: .un :: .un :: .un :: .un :: .un :: .un :: .un :: .un :: .un :: .un :: .un :: .un :: .un :: .un :: .un :: .un :: .un :: .un :: .un :: .un :: .un :: .un :: .un :: .un :: .un :: .un :: .un :: .un :: .un :: .un :: .un :: .un :: .un :: .un :: .un :: .un :: .un :: .un :: .un :: .un :: .un :: .un :: .un :: .un :: .un :: .un :: .un :: .un :: .un :: .un :: .un :: .un :: .un :: .un :: .un :: .un :: .un :: .un :: .un :: .un :: .un :: .un :: .un :: .un :: .un :: .un :: .un :: .un :: .un :: .un :: .un :: .un :: .un :: .un :: .un :: .un :: .un :: .un :: .un :: .un :: .un :: .un :: .un :: .un :: .un :: .un :: [])) rfl ?_
  refine aw_seq ?_
  refine aw_region ?_
  apply al_stepN
  · exact op_alloc (Zr37) (by rfl)
  · rfl
  · (try dsimp only [zS, zN, zH, zT]); try exact rfl
  apply al_end
  · (try dsimp only [zS, zN, zH, zT]); try exact rfl
  refine then_normal ?_
  refine aw_seq ?_
  refine aw_seq ?_
  refine aw_region ?_
  apply al_stepN
  · exact op_move_tmp (by rfl)
  · rfl
  · (try dsimp only [zS, zN, zH, zT]); try exact rfl
  apply al_stepN
  · first | exact op_nilCheck_ptr (by rfl) | exact op_nilCheck_elt (by rfl)
  · rfl
  · (try dsimp only [zS, zN, zH, zT]); try exact rfl
  apply al_stepN
  · first | exact op_fieldAddr_ptr Try.underlying144 rfl Sz26 (by rfl) (by rfl) | exact op_fieldAddr_elt Try.underlying144 rfl Sz26 (by rfl) (by rfl) (by rfl)
  · rfl
  · (try dsimp only [zS, zN, zH, zT]); try exact rfl
  apply al_stepN
  · first | exact op_load_elt Try.underlying26 (by rfl) (by rfl) (by rfl) | exact op_load_ptr Try.underlying26 (by rfl) (by rfl) (by first | exact hPhi | exact hv.rd.q | exact hv.e1 | exact push_ne h.q | exact (hv.set1 _).e1 | exact hw | exact (hv.to _).e1 | exact (hv.far (by omega)).e1) (by rfl)
  · rfl
  · (try dsimp only [zS, zN, zH, zT]); try exact rfl
  apply al_stepN
  · exact op_neI (by rfl) (by rfl)
  · rfl
  · (try dsimp only [zS, zN, zH, zT]); try exact rfl
  apply al_stepN
  · exact op_move_tmp (by rfl)
  · rfl
  · (try dsimp only [zS, zN, zH, zT]); try exact rfl
  refine al_split 14 rfl (fun hg1 => ?_) (fun hg1 => ?_)
  · skip
    (try simp only [decide_eq_true_eq, decide_eq_false_iff_not, beq_iff_eq, beq_eq_false_iff_ne, Bool.not_eq_true', Bool.not_eq_false', bne_iff_ne, ne_eq, Decidable.not_not, bne_eq_false_iff_eq, List.length_map] at hg1)
    have hbr : broke ((s, bad), e) = true := broke_e hg1
    apply al_normT
    · (try dsimp only [zS, zN, zH, zT]); try exact rfl
    refine al_unwanted rfl rfl rfl rfl ?_
    apply al_normT
    · (try dsimp only [zS, zN, zH, zT]); try exact rfl
    refine al_unwanted rfl rfl rfl rfl ?_
    apply al_normT
    · (try dsimp only [zS, zN, zH, zT]); try exact rfl
    refine al_unwanted rfl rfl rfl rfl ?_
    apply al_normT
    · (try dsimp only [zS, zN, zH, zT]); try exact rfl
    refine al_unwanted rfl rfl rfl rfl ?_
    apply al_normT
    · (try dsimp only [zS, zN, zH, zT]); try exact rfl
    refine al_unwanted rfl rfl rfl rfl ?_
    apply al_normT
    · (try dsimp only [zS, zN, zH, zT]); try exact rfl
    refine al_unwanted rfl rfl rfl rfl ?_
    apply al_normT
    · (try dsimp only [zS, zN, zH, zT]); try exact rfl
    apply al_stepN
    · exact op_pick_tt (by rfl) (val_const (by rfl))
    · rfl
    · (try dsimp only [zS, zN, zH, zT]); try exact rfl
    apply al_end
    · (try dsimp only [zS, zN, zH, zT]); try exact rfl
    refine then_normal ?_
    refine aw_cond rfl (fun _ => ?_) (fun h => by cases h)
    refine aw_seq ?_
    refine aw_region ?_
    apply al_stepN
    · exact op_build (pl := [(0, 1), (1, 1), (2, 1), (3, 1), (4, 1), (5, 1)]) Try.underlying37 Zr37 (by kernel_rfl) (by rfl) (by rfl) (by rfl)
    · rfl
    · (try dsimp only [zS, zN, zH, zT]); try exact rfl
    apply al_stepN
    · exact op_storeB (vs := (vs6 0 false 0 [] nilS nilS)) (b' := (vBlk 37 0 false 0 [] nilS nilS)) (H' := _) Sz37 (by rfl) push_at (by intro h; cases h) (by rfl) (by rfl) (Nat.le_of_ble_eq_true rfl) (by simp [AV.one, DV.one, TF, S, I, BY]) (by rfl) (by rfl) rfl
    · rfl
    · (try dsimp only [zS, zN, zH, zT]); try exact rfl
    apply al_end
    · (try dsimp only [zS, zN, zH, zT]); try exact rfl
    refine then_normal ?_
    refine aw_ret ?_
    refine then_ret ?_
    refine retC1 rfl (.cells Try.underlying37 (by rfl) Sz37 (by rfl) (setB_at push_at) (Nat.le_of_ble_eq_true rfl) (by rfl)) ?_
    rw [rV_broke hbr]
    refine ⟨Weak.aggD (weak6 weak_nilL weak_nilF) (vC_one _), ?_⟩
    show Ext (stH Hs 150 144 rid q ((s, bad), e)) _
    rw [h.self]; exact ((Ext.refl Hs).push _ _).setB (Nat.le_refl _)
  · skip
    (try simp only [decide_eq_true_eq, decide_eq_false_iff_not, beq_iff_eq, beq_eq_false_iff_ne, Bool.not_eq_true', Bool.not_eq_false', bne_iff_ne, ne_eq, Decidable.not_not, bne_eq_false_iff_eq, List.length_map] at hg1)
    have he0 : e = 0 := by simpa using hg1
    subst he0
    apply al_normT
    · (try dsimp only [zS, zN, zH, zT]); try exact rfl
    apply al_wantedN
    · rfl
    · rfl
    · rfl
    · exact op_move_tmp (by rfl)
    · (try dsimp only [zS, zN, zH, zT]); try exact rfl
    apply al_wantedN
    · rfl
    · rfl
    · rfl
    · first | exact op_nilCheck_ptr (by rfl) | exact op_nilCheck_elt (by rfl)
    · (try dsimp only [zS, zN, zH, zT]); try exact rfl
    apply al_wantedN
    · rfl
    · rfl
    · rfl
    · first | exact op_fieldAddr_ptr Try.underlying144 rfl Sz91 (by rfl) (by rfl) | exact op_fieldAddr_elt Try.underlying144 rfl Sz91 (by rfl) (by rfl) (by rfl)
    · (try dsimp only [zS, zN, zH, zT]); try exact rfl
    apply al_wantedN
    · rfl
    · rfl
    · rfl
    · first | exact op_load_elt Try.underlying91 (by rfl) (by rfl) (by rfl) | exact op_load_ptr Try.underlying91 (by rfl) (by rfl) (by first | exact hPhi | exact hv.rd.q | exact hv.e1 | exact push_ne h.q | exact (hv.set1 _).e1 | exact hw | exact (hv.to _).e1 | exact (hv.far (by omega)).e1) (by rfl)
    · (try dsimp only [zS, zN, zH, zT]); try exact rfl
    apply al_wantedN
    · rfl
    · rfl
    · rfl
    · exact op_callF Try.func95 (by rfl) (by rfl) (.tmp (by rfl) .nil) (err_ok _ rid s bad (push_ne h.r))
    · (try dsimp only [zS, zN, zH, zT]); try exact rfl
    apply al_wantedN
    · rfl
    · rfl
    · rfl
    · exact op_neI (by rfl) (by rfl)
    · (try dsimp only [zS, zN, zH, zT]); try exact rfl
    apply al_stepN
    · exact op_pick_ff (by rfl) (val_tmp (by rfl))
    · rfl
    · (try dsimp only [zS, zN, zH, zT]); try exact rfl
    apply al_end
    · (try dsimp only [zS, zN, zH, zT]); try exact rfl
    refine then_normal ?_
    refine aw_cond rfl (fun hc3 => ?_) (fun hc3 => ?_)
    · skip
      (try simp only [decide_eq_true_eq, decide_eq_false_iff_not, beq_iff_eq, beq_eq_false_iff_ne, Bool.not_eq_true', Bool.not_eq_false', bne_iff_ne, ne_eq, Decidable.not_not, bne_eq_false_iff_eq, List.length_map] at hc3)
      have hbr : broke ((s, bad), 0) = true := broke_r hc3
      refine aw_seq ?_
      refine aw_region ?_
      apply al_stepN
      · exact op_build (pl := [(0, 1), (1, 1), (2, 1), (3, 1), (4, 1), (5, 1)]) Try.underlying37 Zr37 (by kernel_rfl) (by rfl) (by rfl) (by rfl)
      · rfl
      · (try dsimp only [zS, zN, zH, zT]); try exact rfl
      apply al_stepN
      · exact op_storeB (vs := (vs6 0 false 0 [] nilS nilS)) (b' := (vBlk 37 0 false 0 [] nilS nilS)) (H' := _) Sz37 (by rfl) push_at (by intro h; cases h) (by rfl) (by rfl) (Nat.le_of_ble_eq_true rfl) (by simp [AV.one, DV.one, TF, S, I, BY]) (by rfl) (by rfl) rfl
      · rfl
      · (try dsimp only [zS, zN, zH, zT]); try exact rfl
      apply al_end
      · (try dsimp only [zS, zN, zH, zT]); try exact rfl
      refine then_normal ?_
      refine aw_ret ?_
      refine then_ret ?_
      refine retC1 rfl (.cells Try.underlying37 (by rfl) Sz37 (by rfl) (setB_at push_at) (Nat.le_of_ble_eq_true rfl) (by rfl)) ?_
      rw [rV_broke hbr]
      refine ⟨Weak.aggD (weak6 weak_nilL weak_nilF) (vC_one _), ?_⟩
      show Ext (stH Hs 150 144 rid q ((s, bad), 0)) _
      rw [h.self]; exact ((Ext.refl Hs).push _ _).setB (Nat.le_refl _)
    · skip
      (try simp only [decide_eq_true_eq, decide_eq_false_iff_not, beq_iff_eq, beq_eq_false_iff_ne, Bool.not_eq_true', Bool.not_eq_false', bne_iff_ne, ne_eq, Decidable.not_not, bne_eq_false_iff_eq, List.length_map] at hc3)
      have hb0 : bad = false := by have := broke_not (st := ((s, bad), 0)) rfl (by simpa using hc3); simpa [broke] using this
      subst hb0
      refine aw_skip ?_
      refine then_normal ?_
      refine aw_seq ?_
      refine aw_seq ?_
      refine aw_region ?_
      apply al_stepN
      · exact op_move_tmp (by rfl)
      · rfl
      · (try dsimp only [zS, zN, zH, zT]); try exact rfl
      apply al_stepN
      · exact op_ltI (by rfl) (by rfl)
      · rfl
      · (try dsimp only [zS, zN, zH, zT]); try exact rfl
      apply al_end
      · (try dsimp only [zS, zN, zH, zT]); try exact rfl
      refine then_normal ?_
      refine aw_cond rfl (fun hc4 => ?_) (fun hc4 => ?_)
      · skip
        (try simp only [decide_eq_true_eq, decide_eq_false_iff_not, beq_iff_eq, beq_eq_false_iff_ne, Bool.not_eq_true', Bool.not_eq_false', bne_iff_ne, ne_eq, Decidable.not_not, bne_eq_false_iff_eq, List.length_map] at hc4)
        have hD0 : D = 0 := by omega
        subst hD0
        refine aw_seq ?_
        refine aw_region ?_
        apply al_stepN
        · exact op_move_tmp (by rfl)
        · rfl
        · (try dsimp only [zS, zN, zH, zT]); try exact rfl
        apply al_stepN
        · first | exact op_nilCheck_ptr (by rfl) | exact op_nilCheck_elt (by rfl)
        · rfl
        · (try dsimp only [zS, zN, zH, zT]); try exact rfl
        apply al_stepN
        · first | exact op_fieldAddr_ptr Try.underlying144 rfl Sz26 (by rfl) (by rfl) | exact op_fieldAddr_elt Try.underlying144 rfl Sz26 (by rfl) (by rfl) (by rfl)
        · rfl
        · (try dsimp only [zS, zN, zH, zT]); try exact rfl
        apply al_stepN
        · exact op_storeB (vs := [.d (I 3)]) (b' := (VB 144 rid 3)) (H' := _) Sz26 (by rfl) (push_ne h.q) (by intro h; cases h) (by rfl) (by rfl) (Nat.le_of_ble_eq_true rfl) (by simp [AV.one, DV.one, TF, S, I, BY]) (by rfl) (by rfl) rfl
        · rfl
        · (try dsimp only [zS, zN, zH, zT]); try exact rfl
        apply al_end
        · (try dsimp only [zS, zN, zH, zT]); try exact rfl
        refine then_normal ?_
        refine aw_seq ?_
        refine aw_region ?_
        apply al_stepN
        · exact op_build (pl := [(0, 1), (1, 1), (2, 1), (3, 1), (4, 1), (5, 1)]) Try.underlying37 Zr37 (by kernel_rfl) (by rfl) (by rfl) (by rfl)
        · rfl
        · (try dsimp only [zS, zN, zH, zT]); try exact rfl
        apply al_stepN
        · exact op_storeB (vs := (vs6 0 false 0 [] nilS nilS)) (b' := (vBlk 37 0 false 0 [] nilS nilS)) (H' := _) Sz37 (by rfl) (by rw [setB_ne (by have := lt_nb h.q; omega)]; exact push_at) (by intro h; cases h) (by rfl) (by rfl) (Nat.le_of_ble_eq_true rfl) (by simp [AV.one, DV.one, TF, S, I, BY]) (by rfl) (by rfl) rfl
        · rfl
        · (try dsimp only [zS, zN, zH, zT]); try exact rfl
        apply al_end
        · (try dsimp only [zS, zN, zH, zT]); try exact rfl
        refine then_normal ?_
        refine aw_ret ?_
        refine then_ret ?_
        refine retC1 rfl (.cells Try.underlying37 (by rfl) Sz37 (by rfl) (setB_at (b := ⟨37, (vs6 0 false 0 [] nilS nilS), false⟩) (by rw [setB_ne (by have := lt_nb h.q; omega)]; exact push_at)) (Nat.le_of_ble_eq_true rfl) (by rfl)) ?_
        refine ⟨Weak.aggD (weak6 weak_nilL weak_nilF) (vC_one _), ?_⟩
        show Ext (stH Hs 150 144 rid q ((s, false), 3)) _
        rw [← h.set2 3]; exact (((Ext.refl Hs).push _ _).under (lt_nb h.q)).setB (by rw [setB_nb]; exact Nat.le_refl _)
      · skip
        (try simp only [decide_eq_true_eq, decide_eq_false_iff_not, beq_iff_eq, beq_eq_false_iff_ne, Bool.not_eq_true', Bool.not_eq_false', bne_iff_ne, ne_eq, Decidable.not_not, bne_eq_false_iff_eq, List.length_map] at hc4)
        obtain ⟨d, rfl⟩ : ∃ d, D = d + 1 := ⟨D - 1, by omega⟩
        obtain ⟨k, st1, hk⟩ : ∃ k st, rKind ((s, false), 0) = (k, st) := ⟨_, _, rfl⟩
        have hrv : rV (d + 1) ((s, false), 0) = rBody (rV d) k st1 := by simp only [rV, broke_ok, Bool.false_eq_true, if_false, hk]
        refine aw_skip ?_
        refine then_normal ?_
        apply aw_cutF (fun T H => ∃ (u : Unit), T = ((.ptr q 0) :: (.d (I ((d + 1 : Nat) : Int))) :: .un :: .un :: (.ptr Hs.nb 0) :: (.ptr (Hs.nb + 1) 0) :: .un :: .un :: .un :: .un :: .un :: .un :: .un :: .un :: .un :: .un :: .un :: .un :: .un :: .un :: .un :: .un :: .un :: .un :: .un :: .un :: .un :: .un :: .un :: .un :: .un :: .un :: .un :: .un :: .un :: .un :: .un :: .un :: .un :: .un :: .un :: .un :: .un :: .un :: .un :: .un :: .un :: .un :: .un :: .un :: .un :: .un :: .un :: .un :: .un :: .un :: .un :: .un :: .un :: .un :: .un :: .un :: .un :: .un :: .un :: .un :: .un :: .un :: .un :: .un :: .un :: .un :: .un :: .un :: .un :: .un :: .un :: .un :: .un :: .un :: .un :: .un :: .un :: .un :: .un :: .un :: .un :: .un :: .un :: .un :: .un :: .un :: .un :: .un :: .un :: .un :: .un :: .un :: .un :: .un :: .un :: .un :: .un :: .un :: .un :: .un :: .un :: .un :: .un :: .un :: .un :: .un :: .un :: .un :: .un :: .un :: .un :: .un :: .un :: .un :: .un :: .un :: .un :: .un :: .un :: .un :: .un :: .un :: .un :: .un :: .un :: .un :: .un :: .un :: .un :: .un :: .un :: .un :: .un :: .un :: .un :: .un :: .un :: .un :: .un :: .un :: .un :: .un :: .un :: .un :: .un :: .un :: .un :: .un :: .un :: .un :: .un :: .un :: .un :: .un :: .un :: .un :: .un :: .un :: .un :: .un :: []) ∧ VS Hs 150 144 37 rid q H (vBlk 37 k false 0 [] nilS nilS) st1)
        · skip
          refine aw_region ?_
          apply al_stepN
          · exact op_move_tmp (by rfl)
          · rfl
          · (try dsimp only [zS, zN, zH, zT]); try exact rfl
          apply al_stepN
          · exact op_callF Try.func115 (by rfl) (by rfl) (.tmp (by rfl) .nil) (kind_at hk ⟨h.ne, push_ne h.r, push_ne h.q⟩)
          · rfl
          · (try dsimp only [zS, zN, zH, zT]); try exact rfl
          apply al_stepN
          · exact op_build (pl := [(0, 1), (1, 1), (2, 1), (3, 1), (4, 1), (5, 1)]) Try.underlying37 Zr37 (by kernel_rfl) (by rfl) (by rfl) (by rfl)
          · rfl
          · (try dsimp only [zS, zN, zH, zT]); try exact rfl
          apply al_stepN
          · exact op_alloc (Zr37) (by rfl)
          · rfl
          · (try dsimp only [zS, zN, zH, zT]); try exact rfl
          apply al_stepN
          · exact op_storeB (vs := (vs6 k false 0 [] nilS nilS)) (b' := (vBlk 37 k false 0 [] nilS nilS)) (H' := _) Sz37 (by rfl) push_at (by intro h; cases h) (by rfl) (by rfl) (Nat.le_of_ble_eq_true rfl) (by simp [AV.one, DV.one, TF, S, I, BY]) (by rfl) (by rfl) rfl
          · rfl
          · (try dsimp only [zS, zN, zH, zT]); try exact rfl
          apply al_end
          · (try dsimp only [zS, zN, zH, zT]); try exact rfl
          apply cut_to (true :: true :: false :: false :: true :: true :: false :: false :: false :: false :: false :: false :: false :: false :: false :: false :: false :: false :: false :: false :: false :: false :: false :: false :: false :: false :: false :: false :: false :: false :: false :: false :: false :: false :: false :: false :: false :: false :: false :: false :: false :: false :: false :: false :: false :: false :: false :: false :: false :: false :: false :: false :: false :: false :: false :: false :: false :: false :: false :: false :: false :: false :: false :: false :: false :: false :: false :: false :: false :: false :: false :: false :: false :: false :: false :: false :: false :: false :: false :: false :: false :: false :: false :: false :: false :: false :: false :: false :: false :: false :: false :: false :: false :: false :: false :: false :: false :: false :: false :: false :: false :: false :: false :: false :: false :: false :: false :: false :: false :: false :: false :: false :: false :: false :: false :: false :: false :: false :: false :: false :: false :: false :: false :: false :: false :: false :: false :: false :: false :: false :: false :: false :: false :: false :: false :: false :: false :: false :: false :: false :: false :: false :: false :: false :: false :: false :: false :: false :: false :: false :: false :: false :: false :: false :: false :: false :: false :: false :: false :: false :: false :: false :: false :: false :: false :: false :: [])
          · (try dsimp only [maskT]); try exact rfl
          · rfl
          exact ⟨(), by (simp only [stH_nb, push_nb]) <;> rfl, by (simp only [stH_nb, push_nb]); exact VS.start h rfl st1 _⟩
        rintro T H ⟨u, rfl, hv⟩
        apply aw_cutF (fun T H => ∃ (k : Int) (y : Bool) (i : Int) (tx : List UInt8) (l : AV) (f : AV) (ls : List V) (fs : List F) (st2 : DS), T = ((.ptr q 0) :: .un :: .un :: .un :: (.ptr Hs.nb 0) :: (.ptr (Hs.nb + 1) 0) :: .un :: .un :: .un :: .un :: .un :: .un :: .un :: .un :: .un :: .un :: .un :: .un :: .un :: .un :: .un :: .un :: .un :: .un :: .un :: .un :: .un :: .un :: .un :: .un :: .un :: .un :: .un :: .un :: .un :: .un :: .un :: .un :: .un :: .un :: .un :: .un :: .un :: .un :: .un :: .un :: .un :: .un :: .un :: .un :: .un :: .un :: .un :: .un :: .un :: .un :: .un :: .un :: .un :: .un :: .un :: .un :: .un :: .un :: .un :: .un :: .un :: .un :: .un :: .un :: .un :: .un :: .un :: .un :: .un :: .un :: .un :: .un :: .un :: .un :: .un :: .un :: .un :: .un :: .un :: .un :: .un :: .un :: .un :: .un :: .un :: .un :: .un :: .un :: .un :: .un :: .un :: .un :: .un :: .un :: .un :: .un :: .un :: .un :: .un :: .un :: .un :: .un :: .un :: .un :: .un :: .un :: .un :: .un :: .un :: .un :: .un :: .un :: .un :: .un :: .un :: .un :: .un :: .un :: .un :: .un :: .un :: .un :: .un :: .un :: .un :: .un :: .un :: .un :: .un :: .un :: .un :: .un :: .un :: .un :: .un :: .un :: .un :: .un :: .un :: .un :: .un :: .un :: .un :: .un :: .un :: .un :: .un :: .un :: .un :: .un :: .un :: .un :: .un :: .un :: .un :: .un :: .un :: .un :: .un :: .un :: []) ∧ VS Hs 150 144 37 rid q H (vBlk 37 k y i tx l f) st2 ∧ Weak l (.d (.lst 6 (ls.map vD))) ∧ Weak f (.d (.lst 7 (fs.map fD))) ∧ rV (d + 1) ((s, false), 0) = (.mk k y i tx ls fs, st2))
        · skip
          refine aw_seq ?_
          refine aw_region ?_
          apply al_stepN
          · first | exact op_fieldAddr_ptr Try.underlying37 rfl Sz33 (by rfl) (by rfl) | exact op_fieldAddr_elt Try.underlying37 rfl Sz33 (by rfl) (by rfl) (by rfl)
          · rfl
          · (try dsimp only [zS, zN, zH, zT]); try exact rfl
          apply al_stepN
          · first | exact op_load_elt Try.underlying33 (by rfl) (by rfl) (by rfl) | exact op_load_ptr Try.underlying33 (by rfl) (by rfl) (by first | exact hPhi | exact hv.rd.q | exact hv.e1 | exact push_ne h.q | exact (hv.set1 _).e1 | exact hw | exact (hv.to _).e1 | exact (hv.far (by omega)).e1) (by rfl)
          · rfl
          · (try dsimp only [zS, zN, zH, zT]); try exact rfl
          apply al_end
          · (try dsimp only [zS, zN, zH, zT]); try exact rfl
          refine then_normal ?_
          refine aw_block ?_
          refine aw_seq ?_
          refine aw_region ?_
          apply al_stepN
          · exact op_eqI (by rfl) (by rfl)
          · rfl
          · (try dsimp only [zS, zN, zH, zT]); try exact rfl
          apply al_stepN
          · exact op_assign_tmp (by rfl)
          · rfl
          · (try dsimp only [zS, zN, zH, zT]); try exact rfl
          apply al_end
          · (try dsimp only [zS, zN, zH, zT]); try exact rfl
          refine then_normal ?_
          refine aw_cond rfl (fun hc5 => ?_) (fun hc5 => ?_)
          · skip
            (try simp only [decide_eq_true_eq, decide_eq_false_iff_not, beq_iff_eq, beq_eq_false_iff_ne, Bool.not_eq_true', Bool.not_eq_false', bne_iff_ne, ne_eq, Decidable.not_not, bne_eq_false_iff_eq, List.length_map] at hc5)
            have hk1 : k = 1 := hc5
            subst hk1
            refine aw_region ?_
            apply al_stepN
            · exact op_move_tmp (by rfl)
            · rfl
            · (try dsimp only [zS, zN, zH, zT]); try exact rfl
            apply al_stepN
            · first | exact op_nilCheck_ptr (by rfl) | exact op_nilCheck_elt (by rfl)
            · rfl
            · (try dsimp only [zS, zN, zH, zT]); try exact rfl
            apply al_stepN
            · first | exact op_fieldAddr_ptr Try.underlying144 rfl Sz91 (by rfl) (by rfl) | exact op_fieldAddr_elt Try.underlying144 rfl Sz91 (by rfl) (by rfl) (by rfl)
            · rfl
            · (try dsimp only [zS, zN, zH, zT]); try exact rfl
            apply al_stepN
            · first | exact op_load_elt Try.underlying91 (by rfl) (by rfl) (by rfl) | exact op_load_ptr Try.underlying91 (by rfl) (by rfl) (by first | exact hPhi | exact hv.rd.q | exact hv.e1 | exact push_ne h.q | exact (hv.set1 _).e1 | exact hw | exact (hv.to _).e1 | exact (hv.far (by omega)).e1) (by rfl)
            · rfl
            · (try dsimp only [zS, zN, zH, zT]); try exact rfl
            apply al_stepN
            · exact op_callF Try.func58 (by rfl) (by rfl) (.tmp (by rfl) .nil) (rflag_ok _ rid st1.1.1 st1.1.2 hv.rd.r)
            · rfl
            · (try dsimp only [zS, zN, zH, zT]); try exact rfl
            apply al_stepN
            · first | exact op_fieldAddr_ptr Try.underlying37 rfl Sz4 (by rfl) (by rfl) | exact op_fieldAddr_elt Try.underlying37 rfl Sz4 (by rfl) (by rfl) (by rfl)
            · rfl
            · (try dsimp only [zS, zN, zH, zT]); try exact rfl
            apply al_stepN
            · exact op_storeB (vs := [.d (TF _)]) (b' := (vBlk 37 1 _ 0 [] nilS nilS)) (H' := _) Sz4 (by rfl) (hv.set1 _).e1 (by intro h; cases h) (by rfl) (by rfl) (Nat.le_of_ble_eq_true rfl) (by simp [AV.one, DV.one, TF, S, I, BY]) (by rfl) (by rfl) rfl
            · rfl
            · (try dsimp only [zS, zN, zH, zT]); try exact rfl
            apply al_end
            · (try dsimp only [zS, zN, zH, zT]); try exact rfl
            refine inBlock_normal ?_
            apply cut_to (true :: false :: false :: false :: true :: true :: false :: false :: false :: false :: false :: false :: false :: false :: false :: false :: false :: false :: false :: false :: false :: false :: false :: false :: false :: false :: false :: false :: false :: false :: false :: false :: false :: false :: false :: false :: false :: false :: false :: false :: false :: false :: false :: false :: false :: false :: false :: false :: false :: false :: false :: false :: false :: false :: false :: false :: false :: false :: false :: false :: false :: false :: false :: false :: false :: false :: false :: false :: false :: false :: false :: false :: false :: false :: false :: false :: false :: false :: false :: false :: false :: false :: false :: false :: false :: false :: false :: false :: false :: false :: false :: false :: false :: false :: false :: false :: false :: false :: false :: false :: false :: false :: false :: false :: false :: false :: false :: false :: false :: false :: false :: false :: false :: false :: false :: false :: false :: false :: false :: false :: false :: false :: false :: false :: false :: false :: false :: false :: false :: false :: false :: false :: false :: false :: false :: false :: false :: false :: false :: false :: false :: false :: false :: false :: false :: false :: false :: false :: false :: false :: false :: false :: false :: false :: false :: false :: false :: false :: false :: false :: false :: false :: false :: false :: false :: false :: [])
            · (try dsimp only [maskT]); try exact rfl
            · rfl
            exact ⟨1, (rFlag (st1.1.1, st1.1.2)).1, 0, [], nilS, nilS, [], [], ((rFlag (st1.1.1, st1.1.2)).2, st1.2), rfl, (hv.set1 _).setv _, weak_nilL, weak_nilF, by rw [hrv]; simp [rBody]⟩
          · skip
            (try simp only [decide_eq_true_eq, decide_eq_false_iff_not, beq_iff_eq, beq_eq_false_iff_ne, Bool.not_eq_true', Bool.not_eq_false', bne_iff_ne, ne_eq, Decidable.not_not, bne_eq_false_iff_eq, List.length_map] at hc5)
            have hk1 : ¬ k = 1 := hc5
            refine aw_seq ?_
            refine aw_region ?_
            apply al_stepN
            · exact op_eqI (by rfl) (by rfl)
            · rfl
            · (try dsimp only [zS, zN, zH, zT]); try exact rfl
            apply al_stepN
            · exact op_assign_tmp (by rfl)
            · rfl
            · (try dsimp only [zS, zN, zH, zT]); try exact rfl
            apply al_end
            · (try dsimp only [zS, zN, zH, zT]); try exact rfl
            refine then_normal ?_
            refine aw_cond rfl (fun hc6 => ?_) (fun hc6 => ?_)
            · skip
              (try simp only [decide_eq_true_eq, decide_eq_false_iff_not, beq_iff_eq, beq_eq_false_iff_ne, Bool.not_eq_true', Bool.not_eq_false', bne_iff_ne, ne_eq, Decidable.not_not, bne_eq_false_iff_eq, List.length_map] at hc6)
              have hk2 : k = 2 := hc6
              subst hk2
              obtain ⟨a, st2, ha⟩ : ∃ a st, rNum 4294967295 st1.1 = (a, st) := ⟨_, _, rfl⟩
              obtain ⟨b, st3, hb2⟩ : ∃ a st, rNum 4294967295 st2 = (a, st) := ⟨_, _, rfl⟩
              have hal := rNum_most ha
              have hbl := rNum_most hb2
              have hal : a ≤ 4294967295 := by omega
              have hbl : b ≤ 4294967295 := by omega
              obtain ⟨x, hx⟩ : ∃ x, a * 4294967296 + b = x := ⟨_, rfl⟩
              have hxl : x < 18446744073709551616 := by omega
              refine aw_seq ?_
              refine aw_drawX (fun K => K.blks[q]? = some (VB 144 rid st1.2)) [0, 0, 0, 0, 2, 0, 0, 0, 0, 0, 0, 2, 0, 0, 0] mixed (by kernel_rfl) (hv.rd.q) (.inr (by kernel_rfl)) ?_
              apply drun0X
              · intro H hPhi; exact op_move_tmp (by rfl)
              · rfl
              apply drun_normT
              · (try dsimp only [zS, zN, zH, zT]); try exact rfl
              apply drun0X
              · intro H hPhi; first | exact op_nilCheck_ptr (by rfl) | exact op_nilCheck_elt (by rfl)
              · rfl
              apply drun_normT
              · (try dsimp only [zS, zN, zH, zT]); try exact rfl
              apply drun0X
              · intro H hPhi; first | exact op_fieldAddr_ptr Try.underlying144 rfl Sz91 (by rfl) (by rfl) | exact op_fieldAddr_elt Try.underlying144 rfl Sz91 (by rfl) (by rfl) (by rfl)
              · rfl
              apply drun_normT
              · (try dsimp only [zS, zN, zH, zT]); try exact rfl
              apply drun0X
              · intro H hPhi; first | exact op_load_elt Try.underlying91 (by rfl) (by rfl) (by rfl) | exact op_load_ptr Try.underlying91 (by rfl) (by rfl) (by first | exact hPhi | exact hv.rd.q | exact hv.e1 | exact push_ne h.q | exact (hv.set1 _).e1 | exact hw | exact (hv.to _).e1 | exact (hv.far (by omega)).e1) (by rfl)
              · rfl
              apply drun_normT
              · (try dsimp only [zS, zN, zH, zT]); try exact rfl
              apply drun2X
              · exact op_callF Try.func56 (by rfl) (by rfl) (.tmp (by rfl) (.const (by rfl) .nil)) (num_at (s := st1.1.1) (bad := st1.1.2) ha hv.rd.r (by decide))
              · rfl
              · refine .inr ?_; first | exact (hv.set1 _).rd.q | exact ((hv.set1 _).set1 _).rd.q
              apply drun_normT
              · (try dsimp only [zS, zN, zH, zT]); try exact rfl
              apply drun0X
              · intro H hPhi; first | exact op_convI (by rw [Try.underlying3]; rfl) Try.underlying151 (by rfl) (wrap_u64 ⟨by omega, by omega⟩) | exact op_convI (by rw [Try.underlying3]; rfl) Try.underlying151 (by rfl) (by rfl)
              · rfl
              apply drun_normT
              · (try dsimp only [zS, zN, zH, zT]); try exact rfl
              apply drun0X
              · intro H hPhi; exact op_shl (by rfl) (by rfl) (by omega) (shl32 hal)
              · rfl
              apply drun_normT
              · (try dsimp only [zS, zN, zH, zT]); try exact rfl
              apply drun0X
              · intro H hPhi; exact op_move_tmp (by rfl)
              · rfl
              apply drun_normT
              · (try dsimp only [zS, zN, zH, zT]); try exact rfl
              apply drun0X
              · intro H hPhi; first | exact op_nilCheck_ptr (by rfl) | exact op_nilCheck_elt (by rfl)
              · rfl
              apply drun_normT
              · (try dsimp only [zS, zN, zH, zT]); try exact rfl
              apply drun0X
              · intro H hPhi; first | exact op_fieldAddr_ptr Try.underlying144 rfl Sz91 (by rfl) (by rfl) | exact op_fieldAddr_elt Try.underlying144 rfl Sz91 (by rfl) (by rfl) (by rfl)
              · rfl
              apply drun_normT
              · (try dsimp only [zS, zN, zH, zT]); try exact rfl
              apply drun0X
              · intro H hPhi; first | exact op_load_elt Try.underlying91 (by rfl) (by rfl) (by rfl) | exact op_load_ptr Try.underlying91 (by rfl) (by rfl) (by first | exact hPhi | exact hv.rd.q | exact hv.e1 | exact push_ne h.q | exact (hv.set1 _).e1 | exact hw | exact (hv.to _).e1 | exact (hv.far (by omega)).e1) (by rfl)
              · rfl
              apply drun_normT
              · (try dsimp only [zS, zN, zH, zT]); try exact rfl
              apply drun2X
              · exact op_callF Try.func56 (by rfl) (by rfl) (.tmp (by rfl) (.const (by rfl) .nil)) (num_at hb2 (hv.set1 _).rd.r (by decide))
              · rfl
              · refine .inr ?_; first | exact (hv.set1 _).rd.q | exact ((hv.set1 _).set1 _).rd.q
              apply drun_normT
              · (try dsimp only [zS, zN, zH, zT]); try exact rfl
              apply drun0X
              · intro H hPhi; first | exact op_convI (by rw [Try.underlying3]; rfl) Try.underlying151 (by rfl) (wrap_u64 ⟨by omega, by omega⟩) | exact op_convI (by rw [Try.underlying3]; rfl) Try.underlying151 (by rfl) (by rfl)
              · rfl
              apply drun_normT
              · (try dsimp only [zS, zN, zH, zT]); try exact rfl
              apply drun0X
              · intro H hPhi; exact op_or (by rfl) (by rfl) ((or32 hal hbl).trans (congrArg Nat.cast hx))
              · rfl
              apply drun_normT
              · (try dsimp only [zS, zN, zH, zT]); try exact rfl
              apply drun0X
              · intro H hPhi; exact op_assign_tmp (by rfl)
              · rfl
              apply drun_normT
              · (try dsimp only [zS, zN, zH, zT]); try exact rfl
              apply drun_end
              · (try dsimp only [zS, zN, zH, zT]); try exact rfl
              refine then_normal ?_
              refine aw_region ?_
              apply al_stepN
              · exact op_move_tmp (by rfl)
              · rfl
              · (try dsimp only [zS, zN, zH, zT]); try exact rfl
              apply al_stepN
              · exact op_shr (by rfl) (by rfl) (by omega) (shr1 x)
              · rfl
              · (try dsimp only [zS, zN, zH, zT]); try exact rfl
              apply al_stepN
              · first | exact op_convI (by rw [Try.underlying151]; rfl) Try.underlying2 (by rfl) (wrap_i64 ⟨by omega, by omega⟩) | exact op_convI (by rw [Try.underlying151]; rfl) Try.underlying2 (by rfl) (by rfl)
              · rfl
              · (try dsimp only [zS, zN, zH, zT]); try exact rfl
              apply al_stepN
              · exact op_move_tmp (by rfl)
              · rfl
              · (try dsimp only [zS, zN, zH, zT]); try exact rfl
              apply al_stepN
              · exact op_and (by rfl) (by rfl) (and1 hxl)
              · rfl
              · (try dsimp only [zS, zN, zH, zT]); try exact rfl
              apply al_stepN
              · first | exact op_convI (by rw [Try.underlying151]; rfl) Try.underlying2 (by rfl) (wrap_i64 ⟨by omega, by omega⟩) | exact op_convI (by rw [Try.underlying151]; rfl) Try.underlying2 (by rfl) (by rfl)
              · rfl
              · (try dsimp only [zS, zN, zH, zT]); try exact rfl
              apply al_stepN
              · exact op_neg (by rfl) (neg_small (by omega))
              · rfl
              · (try dsimp only [zS, zN, zH, zT]); try exact rfl
              apply al_stepN
              · exact op_xor (by rfl) (by rfl) (unzig_bits hxl)
              · rfl
              · (try dsimp only [zS, zN, zH, zT]); try exact rfl
              apply al_stepN
              · first | exact op_fieldAddr_ptr Try.underlying37 rfl Sz2 (by rfl) (by rfl) | exact op_fieldAddr_elt Try.underlying37 rfl Sz2 (by rfl) (by rfl) (by rfl)
              · rfl
              · (try dsimp only [zS, zN, zH, zT]); try exact rfl
              apply al_stepN
              · exact op_storeB (vs := [.d (.v (.int .i64 (unzig x)))]) (b' := (vBlk 37 2 false (unzig x) [] nilS nilS)) (H' := _) Sz2 (by rfl) ((hv.set1 _).set1 _).e1 (by intro h; cases h) (by rfl) (by rfl) (Nat.le_of_ble_eq_true rfl) (by simp [AV.one, DV.one, TF, S, I, BY]) (by rfl) (by rfl) rfl
              · rfl
              · (try dsimp only [zS, zN, zH, zT]); try exact rfl
              apply al_end
              · (try dsimp only [zS, zN, zH, zT]); try exact rfl
              refine inBlock_normal ?_
              apply cut_to (true :: false :: false :: false :: true :: true :: false :: false :: false :: false :: false :: false :: false :: false :: false :: false :: false :: false :: false :: false :: false :: false :: false :: false :: false :: false :: false :: false :: false :: false :: false :: false :: false :: false :: false :: false :: false :: false :: false :: false :: false :: false :: false :: false :: false :: false :: false :: false :: false :: false :: false :: false :: false :: false :: false :: false :: false :: false :: false :: false :: false :: false :: false :: false :: false :: false :: false :: false :: false :: false :: false :: false :: false :: false :: false :: false :: false :: false :: false :: false :: false :: false :: false :: false :: false :: false :: false :: false :: false :: false :: false :: false :: false :: false :: false :: false :: false :: false :: false :: false :: false :: false :: false :: false :: false :: false :: false :: false :: false :: false :: false :: false :: false :: false :: false :: false :: false :: false :: false :: false :: false :: false :: false :: false :: false :: false :: false :: false :: false :: false :: false :: false :: false :: false :: false :: false :: false :: false :: false :: false :: false :: false :: false :: false :: false :: false :: false :: false :: false :: false :: false :: false :: false :: false :: false :: false :: false :: false :: false :: false :: false :: false :: false :: false :: false :: false :: [])
              · (try dsimp only [maskT]); try exact rfl
              · rfl
              exact ⟨2, false, unzig x, [], nilS, nilS, [], [], (st3, st1.2), rfl, ((hv.set1 _).set1 _).setv _, weak_nilL, weak_nilF, by rw [hrv]; simp [rBody, rInt, ha, hb2, hx]⟩
            · skip
              (try simp only [decide_eq_true_eq, decide_eq_false_iff_not, beq_iff_eq, beq_eq_false_iff_ne, Bool.not_eq_true', Bool.not_eq_false', bne_iff_ne, ne_eq, Decidable.not_not, bne_eq_false_iff_eq, List.length_map] at hc6)
              have hk2 : ¬ k = 2 := hc6
              refine aw_seq ?_
              refine aw_region ?_
              apply al_stepN
              · exact op_eqI (by rfl) (by rfl)
              · rfl
              · (try dsimp only [zS, zN, zH, zT]); try exact rfl
              apply al_stepN
              · exact op_assign_tmp (by rfl)
              · rfl
              · (try dsimp only [zS, zN, zH, zT]); try exact rfl
              apply al_end
              · (try dsimp only [zS, zN, zH, zT]); try exact rfl
              refine then_normal ?_
              refine aw_cond rfl (fun hc7 => ?_) (fun hc7 => ?_)
              · skip
                (try simp only [decide_eq_true_eq, decide_eq_false_iff_not, beq_iff_eq, beq_eq_false_iff_ne, Bool.not_eq_true', Bool.not_eq_false', bne_iff_ne, ne_eq, Decidable.not_not, bne_eq_false_iff_eq, List.length_map] at hc7)
                have hk3 : k = 3 := hc7
                subst hk3
                refine aw_region ?_
                apply al_stepN
                · exact op_move_tmp (by rfl)
                · rfl
                · (try dsimp only [zS, zN, zH, zT]); try exact rfl
                apply al_stepN
                · first | exact op_nilCheck_ptr (by rfl) | exact op_nilCheck_elt (by rfl)
                · rfl
                · (try dsimp only [zS, zN, zH, zT]); try exact rfl
                apply al_stepN
                · first | exact op_fieldAddr_ptr Try.underlying144 rfl Sz91 (by rfl) (by rfl) | exact op_fieldAddr_elt Try.underlying144 rfl Sz91 (by rfl) (by rfl) (by rfl)
                · rfl
                · (try dsimp only [zS, zN, zH, zT]); try exact rfl
                apply al_stepN
                · first | exact op_load_elt Try.underlying91 (by rfl) (by rfl) (by rfl) | exact op_load_ptr Try.underlying91 (by rfl) (by rfl) (by first | exact hPhi | exact hv.rd.q | exact hv.e1 | exact push_ne h.q | exact (hv.set1 _).e1 | exact hw | exact (hv.to _).e1 | exact (hv.far (by omega)).e1) (by rfl)
                · rfl
                · (try dsimp only [zS, zN, zH, zT]); try exact rfl
                apply al_stepN
                · exact op_callF Try.func57 (by rfl) (by rfl) (.tmp (by rfl) (.const (by rfl) .nil)) (rtext_ok _ rid st1.1.1 st1.1.2 4096 hv.rd.r (by decide))
                · rfl
                · (try dsimp only [zS, zN, zH, zT]); try exact rfl
                apply al_stepN
                · first | exact op_fieldAddr_ptr Try.underlying37 rfl Sz9 (by rfl) (by rfl) | exact op_fieldAddr_elt Try.underlying37 rfl Sz9 (by rfl) (by rfl) (by rfl)
                · rfl
                · (try dsimp only [zS, zN, zH, zT]); try exact rfl
                apply al_stepN
                · exact op_storeB (vs := [.d (S _)]) (b' := (vBlk 37 3 false 0 _ nilS nilS)) (H' := _) Sz9 (by rfl) (hv.set1 _).e1 (by intro h; cases h) (by rfl) (by rfl) (Nat.le_of_ble_eq_true rfl) (by simp [AV.one, DV.one, TF, S, I, BY]) (by rfl) (by rfl) rfl
                · rfl
                · (try dsimp only [zS, zN, zH, zT]); try exact rfl
                apply al_end
                · (try dsimp only [zS, zN, zH, zT]); try exact rfl
                refine inBlock_normal ?_
                apply cut_to (true :: false :: false :: false :: true :: true :: false :: false :: false :: false :: false :: false :: false :: false :: false :: false :: false :: false :: false :: false :: false :: false :: false :: false :: false :: false :: false :: false :: false :: false :: false :: false :: false :: false :: false :: false :: false :: false :: false :: false :: false :: false :: false :: false :: false :: false :: false :: false :: false :: false :: false :: false :: false :: false :: false :: false :: false :: false :: false :: false :: false :: false :: false :: false :: false :: false :: false :: false :: false :: false :: false :: false :: false :: false :: false :: false :: false :: false :: false :: false :: false :: false :: false :: false :: false :: false :: false :: false :: false :: false :: false :: false :: false :: false :: false :: false :: false :: false :: false :: false :: false :: false :: false :: false :: false :: false :: false :: false :: false :: false :: false :: false :: false :: false :: false :: false :: false :: false :: false :: false :: false :: false :: false :: false :: false :: false :: false :: false :: false :: false :: false :: false :: false :: false :: false :: false :: false :: false :: false :: false :: false :: false :: false :: false :: false :: false :: false :: false :: false :: false :: false :: false :: false :: false :: false :: false :: false :: false :: false :: false :: false :: false :: false :: false :: false :: false :: [])
                · (try dsimp only [maskT]); try exact rfl
                · rfl
                exact ⟨3, false, 0, (rText 4096 (st1.1.1, st1.1.2)).1, nilS, nilS, [], [], ((rText 4096 (st1.1.1, st1.1.2)).2, st1.2), rfl, (hv.set1 _).setv _, weak_nilL, weak_nilF, by rw [hrv]; simp [rBody]⟩
              · skip
                (try simp only [decide_eq_true_eq, decide_eq_false_iff_not, beq_iff_eq, beq_eq_false_iff_ne, Bool.not_eq_true', Bool.not_eq_false', bne_iff_ne, ne_eq, Decidable.not_not, bne_eq_false_iff_eq, List.length_map] at hc7)
                have hk3 : ¬ k = 3 := hc7
                refine aw_seq ?_
                refine aw_region ?_
                apply al_stepN
                · exact op_eqI (by rfl) (by rfl)
                · rfl
                · (try dsimp only [zS, zN, zH, zT]); try exact rfl
                apply al_stepN
                · exact op_assign_tmp (by rfl)
                · rfl
                · (try dsimp only [zS, zN, zH, zT]); try exact rfl
                apply al_end
                · (try dsimp only [zS, zN, zH, zT]); try exact rfl
                refine then_normal ?_
                refine aw_cond rfl (fun hc8 => ?_) (fun hc8 => ?_)
                · skip
                  (try simp only [decide_eq_true_eq, decide_eq_false_iff_not, beq_iff_eq, beq_eq_false_iff_ne, Bool.not_eq_true', Bool.not_eq_false', bne_iff_ne, ne_eq, Decidable.not_not, bne_eq_false_iff_eq, List.length_map] at hc8)
                  have hk4 : k = 4 := hc8
                  subst hk4
                  obtain ⟨m, st2, hm1⟩ : ∃ a st, rNum 4096 st1.1 = (a, st) := ⟨_, _, rfl⟩
                  have hml := rNum_most hm1
                  have hml : m ≤ 4096 := by omega
                  refine aw_seq ?_
                  refine aw_region ?_
                  apply al_stepN
                  · exact op_move_tmp (by rfl)
                  · rfl
                  · (try dsimp only [zS, zN, zH, zT]); try exact rfl
                  apply al_stepN
                  · first | exact op_nilCheck_ptr (by rfl) | exact op_nilCheck_elt (by rfl)
                  · rfl
                  · (try dsimp only [zS, zN, zH, zT]); try exact rfl
                  apply al_stepN
                  · first | exact op_fieldAddr_ptr Try.underlying144 rfl Sz91 (by rfl) (by rfl) | exact op_fieldAddr_elt Try.underlying144 rfl Sz91 (by rfl) (by rfl) (by rfl)
                  · rfl
                  · (try dsimp only [zS, zN, zH, zT]); try exact rfl
                  apply al_stepN
                  · first | exact op_load_elt Try.underlying91 (by rfl) (by rfl) (by rfl) | exact op_load_ptr Try.underlying91 (by rfl) (by rfl) (by first | exact hPhi | exact hv.rd.q | exact hv.e1 | exact push_ne h.q | exact (hv.set1 _).e1 | exact hw | exact (hv.to _).e1 | exact (hv.far (by omega)).e1) (by rfl)
                  · rfl
                  · (try dsimp only [zS, zN, zH, zT]); try exact rfl
                  apply al_stepN
                  · exact op_callF Try.func56 (by rfl) (by rfl) (.tmp (by rfl) (.const (by rfl) .nil)) (num_at (s := st1.1.1) (bad := st1.1.2) hm1 hv.rd.r (by decide))
                  · rfl
                  · (try dsimp only [zS, zN, zH, zT]); try exact rfl
                  apply al_stepN
                  · exact op_move_const (by rfl)
                  · rfl
                  · (try dsimp only [zS, zN, zH, zT]); try exact rfl
                  apply al_end
                  · (try dsimp only [zS, zN, zH, zT]); try exact rfl
                  refine then_normal ?_
                  refine aw_block ?_
                  apply aw_loopF (fun n T H => ∃ (j : Nat) (v : AV) (t : Option Nat), T = ((.ptr q 0) :: (.d (I ((d + 1 : Nat) : Int))) :: .un :: .un :: (.ptr Hs.nb 0) :: (.ptr (Hs.nb + 1) 0) :: .un :: .un :: .un :: .un :: .un :: .un :: .un :: .un :: .un :: .un :: .un :: .un :: .un :: .un :: .un :: .un :: .un :: .un :: .un :: .un :: .un :: .un :: .un :: .un :: .un :: .un :: .un :: .un :: .un :: .un :: .un :: .un :: .un :: .un :: .un :: .un :: .un :: .un :: .un :: .un :: .un :: .un :: .un :: .un :: .un :: .un :: .un :: .un :: .un :: .un :: .un :: .un :: .un :: .un :: .un :: .un :: .un :: .un :: .un :: .un :: .un :: .un :: .un :: .un :: .un :: .un :: .un :: .un :: .un :: .un :: .un :: .un :: .un :: .un :: .un :: (.d (I m)) :: (.d (I j)) :: .un :: .un :: .un :: .un :: .un :: .un :: .un :: .un :: .un :: .un :: .un :: .un :: .un :: .un :: .un :: .un :: .un :: .un :: .un :: .un :: .un :: .un :: .un :: .un :: .un :: .un :: .un :: .un :: .un :: .un :: .un :: .un :: .un :: .un :: .un :: .un :: .un :: .un :: .un :: .un :: .un :: .un :: .un :: .un :: .un :: .un :: .un :: .un :: .un :: .un :: .un :: .un :: .un :: .un :: .un :: .un :: .un :: .un :: .un :: .un :: .un :: .un :: .un :: .un :: .un :: .un :: .un :: .un :: .un :: .un :: .un :: .un :: .un :: .un :: .un :: .un :: .un :: .un :: .un :: .un :: .un :: .un :: .un :: []) ∧ j ≤ m ∧ n = m - j ∧ VS Hs 150 144 37 rid q H (vBlk 37 4 false 0 [] v nilS) (rL (rV d) j (st2, st1.2)).2 ∧ GL Hs H v t 6 ((rL (rV d) j (st2, st1.2)).1.map vD)) (m) (true :: true :: false :: false :: true :: true :: false :: false :: false :: false :: false :: false :: false :: false :: false :: false :: false :: false :: false :: false :: false :: false :: false :: false :: false :: false :: false :: false :: false :: false :: false :: false :: false :: false :: false :: false :: false :: false :: false :: false :: false :: false :: false :: false :: false :: false :: false :: false :: false :: false :: false :: false :: false :: false :: false :: false :: false :: false :: false :: false :: false :: false :: false :: false :: false :: false :: false :: false :: false :: false :: false :: false :: false :: false :: false :: false :: false :: false :: false :: false :: false :: true :: true :: false :: false :: false :: false :: false :: false :: false :: false :: false :: false :: false :: false :: false :: false :: false :: false :: false :: false :: false :: false :: false :: false :: false :: false :: false :: false :: false :: false :: false :: false :: false :: false :: false :: false :: false :: false :: false :: false :: false :: false :: false :: false :: false :: false :: false :: false :: false :: false :: false :: false :: false :: false :: false :: false :: false :: false :: false :: false :: false :: false :: false :: false :: false :: false :: false :: false :: false :: false :: false :: false :: false :: false :: false :: false :: false :: false :: false :: false :: false :: false :: false :: false :: false :: [])
                  · (try dsimp only [maskT]); try exact rfl
                  · rfl
                  · exact ⟨0, _, _, rfl, by omega, rfl, hv.set1 st2, GL.nil _ _ _⟩
                  rintro n T H ⟨j, v, t, rfl, hj, rfl, hv, hg⟩
                  refine aw_seq ?_
                  refine aw_region ?_
                  apply al_stepN
                  · exact op_ltI (by rfl) (by rfl)
                  · rfl
                  · (try dsimp only [zS, zN, zH, zT]); try exact rfl
                  apply al_end
                  · (try dsimp only [zS, zN, zH, zT]); try exact rfl
                  refine then_normal ?_
                  refine aw_seq ?_
                  refine aw_cond rfl (fun hc9 => ?_) (fun hc9 => ?_)
                  · skip
                    (try simp only [decide_eq_true_eq, decide_eq_false_iff_not, beq_iff_eq, beq_eq_false_iff_ne, Bool.not_eq_true', Bool.not_eq_false', bne_iff_ne, ne_eq, Decidable.not_not, bne_eq_false_iff_eq, List.length_map] at hc9)
                    have hlt : j < m := by omega
                    have hlen := rL_len (rV d) j (st2, st1.2)
                    refine aw_skip ?_
                    refine then_normal ?_
                    refine aw_seq ?_
                    refine aw_block ?_
                    refine aw_seq ?_
                    refine aw_seq ?_
                    refine aw_region ?_
                    apply al_stepN
                    · exact op_move_tmp (by rfl)
                    · rfl
                    · (try dsimp only [zS, zN, zH, zT]); try exact rfl
                    apply al_stepN
                    · first | exact op_nilCheck_ptr (by rfl) | exact op_nilCheck_elt (by rfl)
                    · rfl
                    · (try dsimp only [zS, zN, zH, zT]); try exact rfl
                    apply al_stepN
                    · first | exact op_fieldAddr_ptr Try.underlying144 rfl Sz26 (by rfl) (by rfl) | exact op_fieldAddr_elt Try.underlying144 rfl Sz26 (by rfl) (by rfl) (by rfl)
                    · rfl
                    · (try dsimp only [zS, zN, zH, zT]); try exact rfl
                    apply al_stepN
                    · first | exact op_load_elt Try.underlying26 (by rfl) (by rfl) (by rfl) | exact op_load_ptr Try.underlying26 (by rfl) (by rfl) (by first | exact hPhi | exact hv.rd.q | exact hv.e1 | exact push_ne h.q | exact (hv.set1 _).e1 | exact hw | exact (hv.to _).e1 | exact (hv.far (by omega)).e1) (by rfl)
                    · rfl
                    · (try dsimp only [zS, zN, zH, zT]); try exact rfl
                    apply al_stepN
                    · exact op_neI (by rfl) (by rfl)
                    · rfl
                    · (try dsimp only [zS, zN, zH, zT]); try exact rfl
                    apply al_stepN
                    · exact op_move_tmp (by rfl)
                    · rfl
                    · (try dsimp only [zS, zN, zH, zT]); try exact rfl
                    refine al_split 89 rfl (fun hg10 => ?_) (fun hg10 => ?_)
                    · skip
                      (try simp only [decide_eq_true_eq, decide_eq_false_iff_not, beq_iff_eq, beq_eq_false_iff_ne, Bool.not_eq_true', Bool.not_eq_false', bne_iff_ne, ne_eq, Decidable.not_not, bne_eq_false_iff_eq, List.length_map] at hg10)
                      have hbk : broke (rL (rV d) j (st2, st1.2)).2 = true := broke_e hg10
                      apply al_normT
                      · (try dsimp only [zS, zN, zH, zT]); try exact rfl
                      refine al_unwanted rfl rfl rfl rfl ?_
                      apply al_normT
                      · (try dsimp only [zS, zN, zH, zT]); try exact rfl
                      refine al_unwanted rfl rfl rfl rfl ?_
                      apply al_normT
                      · (try dsimp only [zS, zN, zH, zT]); try exact rfl
                      refine al_unwanted rfl rfl rfl rfl ?_
                      apply al_normT
                      · (try dsimp only [zS, zN, zH, zT]); try exact rfl
                      refine al_unwanted rfl rfl rfl rfl ?_
                      apply al_normT
                      · (try dsimp only [zS, zN, zH, zT]); try exact rfl
                      refine al_unwanted rfl rfl rfl rfl ?_
                      apply al_normT
                      · (try dsimp only [zS, zN, zH, zT]); try exact rfl
                      refine al_unwanted rfl rfl rfl rfl ?_
                      apply al_normT
                      · (try dsimp only [zS, zN, zH, zT]); try exact rfl
                      apply al_stepN
                      · exact op_pick_tt (by rfl) (val_const (by rfl))
                      · rfl
                      · (try dsimp only [zS, zN, zH, zT]); try exact rfl
                      apply al_end
                      · (try dsimp only [zS, zN, zH, zT]); try exact rfl
                      refine then_normal ?_
                      refine aw_cond rfl (fun _ => ?_) (fun h => by cases h)
                      refine aw_exit ?_
                      refine then_exit (inBlock_past rfl (then_exit (again_exit (inBlock_here (inBlock_normal ?_)))))
                      apply cut_to (true :: false :: false :: false :: true :: true :: false :: false :: false :: false :: false :: false :: false :: false :: false :: false :: false :: false :: false :: false :: false :: false :: false :: false :: false :: false :: false :: false :: false :: false :: false :: false :: false :: false :: false :: false :: false :: false :: false :: false :: false :: false :: false :: false :: false :: false :: false :: false :: false :: false :: false :: false :: false :: false :: false :: false :: false :: false :: false :: false :: false :: false :: false :: false :: false :: false :: false :: false :: false :: false :: false :: false :: false :: false :: false :: false :: false :: false :: false :: false :: false :: false :: false :: false :: false :: false :: false :: false :: false :: false :: false :: false :: false :: false :: false :: false :: false :: false :: false :: false :: false :: false :: false :: false :: false :: false :: false :: false :: false :: false :: false :: false :: false :: false :: false :: false :: false :: false :: false :: false :: false :: false :: false :: false :: false :: false :: false :: false :: false :: false :: false :: false :: false :: false :: false :: false :: false :: false :: false :: false :: false :: false :: false :: false :: false :: false :: false :: false :: false :: false :: false :: false :: false :: false :: false :: false :: false :: false :: false :: false :: false :: false :: false :: false :: false :: false :: [])
                      · (try dsimp only [maskT]); try exact rfl
                      · rfl
                      exact ⟨4, false, 0, [], v, nilS, (rL (rV d) j (st2, st1.2)).1, [], (rL (rV d) j (st2, st1.2)).2, rfl, hv, Weak.lst hg.app, weak_nilF, by rw [hrv]; simp [rBody, hm1, rL_stay hbk m (by omega)]⟩
                    · skip
                      (try simp only [decide_eq_true_eq, decide_eq_false_iff_not, beq_iff_eq, beq_eq_false_iff_ne, Bool.not_eq_true', Bool.not_eq_false', bne_iff_ne, ne_eq, Decidable.not_not, bne_eq_false_iff_eq, List.length_map] at hg10)
                      have he0 : (rL (rV d) j (st2, st1.2)).2.2 = 0 := by simpa using hg10
                      apply al_normT
                      · (try dsimp only [zS, zN, zH, zT]); try exact rfl
                      apply al_wantedN
                      · rfl
                      · rfl
                      · rfl
                      · exact op_move_tmp (by rfl)
                      · (try dsimp only [zS, zN, zH, zT]); try exact rfl
                      apply al_wantedN
                      · rfl
                      · rfl
                      · rfl
                      · first | exact op_nilCheck_ptr (by rfl) | exact op_nilCheck_elt (by rfl)
                      · (try dsimp only [zS, zN, zH, zT]); try exact rfl
                      apply al_wantedN
                      · rfl
                      · rfl
                      · rfl
                      · first | exact op_fieldAddr_ptr Try.underlying144 rfl Sz91 (by rfl) (by rfl) | exact op_fieldAddr_elt Try.underlying144 rfl Sz91 (by rfl) (by rfl) (by rfl)
                      · (try dsimp only [zS, zN, zH, zT]); try exact rfl
                      apply al_wantedN
                      · rfl
                      · rfl
                      · rfl
                      · first | exact op_load_elt Try.underlying91 (by rfl) (by rfl) (by rfl) | exact op_load_ptr Try.underlying91 (by rfl) (by rfl) (by first | exact hPhi | exact hv.rd.q | exact hv.e1 | exact push_ne h.q | exact (hv.set1 _).e1 | exact hw | exact (hv.to _).e1 | exact (hv.far (by omega)).e1) (by rfl)
                      · (try dsimp only [zS, zN, zH, zT]); try exact rfl
                      apply al_wantedN
                      · rfl
                      · rfl
                      · rfl
                      · exact op_callF Try.func95 (by rfl) (by rfl) (.tmp (by rfl) .nil) (err_ok _ rid _ _ hv.rd.r)
                      · (try dsimp only [zS, zN, zH, zT]); try exact rfl
                      apply al_wantedN
                      · rfl
                      · rfl
                      · rfl
                      · exact op_neI (by rfl) (by rfl)
                      · (try dsimp only [zS, zN, zH, zT]); try exact rfl
                      apply al_stepN
                      · exact op_pick_ff (by rfl) (val_tmp (by rfl))
                      · rfl
                      · (try dsimp only [zS, zN, zH, zT]); try exact rfl
                      apply al_end
                      · (try dsimp only [zS, zN, zH, zT]); try exact rfl
                      refine then_normal ?_
                      refine aw_cond rfl (fun hc12 => ?_) (fun hc12 => ?_)
                      · skip
                        (try simp only [decide_eq_true_eq, decide_eq_false_iff_not, beq_iff_eq, beq_eq_false_iff_ne, Bool.not_eq_true', Bool.not_eq_false', bne_iff_ne, ne_eq, Decidable.not_not, bne_eq_false_iff_eq, List.length_map] at hc12)
                        have hbk : broke (rL (rV d) j (st2, st1.2)).2 = true := broke_r hc12
                        refine aw_exit ?_
                        refine then_exit (inBlock_past rfl (then_exit (again_exit (inBlock_here (inBlock_normal ?_)))))
                        apply cut_to (true :: false :: false :: false :: true :: true :: false :: false :: false :: false :: false :: false :: false :: false :: false :: false :: false :: false :: false :: false :: false :: false :: false :: false :: false :: false :: false :: false :: false :: false :: false :: false :: false :: false :: false :: false :: false :: false :: false :: false :: false :: false :: false :: false :: false :: false :: false :: false :: false :: false :: false :: false :: false :: false :: false :: false :: false :: false :: false :: false :: false :: false :: false :: false :: false :: false :: false :: false :: false :: false :: false :: false :: false :: false :: false :: false :: false :: false :: false :: false :: false :: false :: false :: false :: false :: false :: false :: false :: false :: false :: false :: false :: false :: false :: false :: false :: false :: false :: false :: false :: false :: false :: false :: false :: false :: false :: false :: false :: false :: false :: false :: false :: false :: false :: false :: false :: false :: false :: false :: false :: false :: false :: false :: false :: false :: false :: false :: false :: false :: false :: false :: false :: false :: false :: false :: false :: false :: false :: false :: false :: false :: false :: false :: false :: false :: false :: false :: false :: false :: false :: false :: false :: false :: false :: false :: false :: false :: false :: false :: false :: false :: false :: false :: false :: false :: false :: [])
                        · (try dsimp only [maskT]); try exact rfl
                        · rfl
                        exact ⟨4, false, 0, [], v, nilS, (rL (rV d) j (st2, st1.2)).1, [], (rL (rV d) j (st2, st1.2)).2, rfl, hv, Weak.lst hg.app, weak_nilF, by rw [hrv]; simp [rBody, hm1, rL_stay hbk m (by omega)]⟩
                      · skip
                        (try simp only [decide_eq_true_eq, decide_eq_false_iff_not, beq_iff_eq, beq_eq_false_iff_ne, Bool.not_eq_true', Bool.not_eq_false', bne_iff_ne, ne_eq, Decidable.not_not, bne_eq_false_iff_eq, List.length_map] at hc12)
                        have hnb : broke (rL (rV d) j (st2, st1.2)).2 = false := broke_not he0 (by simpa using hc12)
                        refine aw_skip ?_
                        refine then_normal ?_
                        refine aw_drawX (fun K => K.blks[Hs.nb + 1]? = some (vBlk 37 4 false 0 [] v nilS)) [0, 0, 0, 0, 0, 2, 0, 2, 0, 2] mixed (by kernel_rfl) (hv.e1) (.inr (by kernel_rfl)) ?_
                        apply drun0X
                        · intro H hPhi; first | exact op_fieldAddr_ptr Try.underlying37 rfl Sz34 (by rfl) (by rfl) | exact op_fieldAddr_elt Try.underlying37 rfl Sz34 (by rfl) (by rfl) (by rfl)
                        · rfl
                        apply drun_normT
                        · (try dsimp only [zS, zN, zH, zT]); try exact rfl
                        apply drun0X
                        · intro H hPhi; first | exact op_load_elt Try.underlying34 (by rfl) (by rfl) (by rfl) | exact op_load_ptr Try.underlying34 (by rfl) (by rfl) (by first | exact hPhi | exact hv.rd.q | exact hv.e1 | exact push_ne h.q | exact (hv.set1 _).e1 | exact hw | exact (hv.to _).e1 | exact (hv.far (by omega)).e1) (by rfl)
                        · rfl
                        apply drun_normT
                        · (try dsimp only [zS, zN, zH, zT]); try exact rfl
                        apply drun0X
                        · intro H hPhi; exact op_move_tmp (by rfl)
                        · rfl
                        apply drun_normT
                        · (try dsimp only [zS, zN, zH, zT]); try exact rfl
                        apply drun0X
                        · intro H hPhi; exact op_move_tmp (by rfl)
                        · rfl
                        apply drun_normT
                        · (try dsimp only [zS, zN, zH, zT]); try exact rfl
                        apply drun0X
                        · intro H hPhi; exact op_sub (by rfl) (by rfl) (show IntKind.i64.wrap (((d + 1 : Nat) : Int) - 1) = (d : Int) by rw [wrap_i64 ⟨by omega, by omega⟩]; omega)
                        · rfl
                        apply drun_normT
                        · (try dsimp only [zS, zN, zH, zT]); try exact rfl
                        apply drun2X
                        · exact op_callF Try.func88 (by rfl) (by rfl) (.tmp (by rfl) (.tmp (by rfl) .nil)) (ih d rfl _ _ hv.rd)
                        · rfl
                        · refine .inr ?_; first | exact (hv.to _).e1 | exact ((hv.to _).up hg.new hg.ok).e1
                        apply drun_normT
                        · (try dsimp only [zS, zN, zH, zT]); try exact rfl
                        apply drun0X
                        · intro H hPhi; exact op_lit Try.underlying34 ZS37 (.cons (y := vD (rV d (rL (rV d) j (st2, st1.2)).2).1) (by rfl) (.nil _)) (by rfl) (lit_v _) (lit_v1 _) (by decide)
                        · rfl
                        apply drun_normT
                        · (try dsimp only [zS, zN, zH, zT]); try exact rfl
                        apply drun2X
                        · exact op_append Try.underlying34 Inf37 (by rfl) hg.app (.list _ _ _ _ Try.underlying34 (LL.own _ _ _)) hg.ok (by simp) (by simp; omega) (by simp; omega)
                        · rfl
                        · refine .inr ?_; first | exact (hv.to _).e1 | exact ((hv.to _).up hg.new hg.ok).e1
                        apply drun_normT
                        · (try dsimp only [zS, zN, zH, zT]); try exact rfl
                        apply drun0X
                        · intro H hPhi; first | exact op_fieldAddr_ptr Try.underlying37 rfl Sz34 (by rfl) (by rfl) | exact op_fieldAddr_elt Try.underlying37 rfl Sz34 (by rfl) (by rfl) (by rfl)
                        · rfl
                        apply drun_normT
                        · (try dsimp only [zS, zN, zH, zT]); try exact rfl
                        apply drun2X
                        · exact op_storeB (vs := [.own _ 6 _]) (b' := (vBlk 37 4 false 0 [] (.own _ 6 _) nilS)) (H' := _) Sz34 (by rfl) ((hv.to _).up hg.new hg.ok).e1 (by intro h; cases h) (by rfl) (by rfl) (Nat.le_of_ble_eq_true rfl) (by simp [AV.one, DV.one, TF, S, I, BY]) (by rfl) (by rfl) rfl
                        · rfl
                        · exact .inl rfl
                        apply drun_normT
                        · (try dsimp only [zS, zN, zH, zT]); try exact rfl
                        apply drun_end
                        · (try dsimp only [zS, zN, zH, zT]); try exact rfl
                        refine inBlock_normal (then_normal ?_)
                        refine aw_region ?_
                        apply al_stepN
                        · first | exact op_add (by rfl) (by rfl) (wrap_i64 ⟨by omega, by omega⟩) | exact op_add (by rfl) (by rfl) (by rfl)
                        · rfl
                        · (try dsimp only [zS, zN, zH, zT]); try exact rfl
                        apply al_stepN
                        · exact op_move_tmp (by rfl)
                        · rfl
                        · (try dsimp only [zS, zN, zH, zT]); try exact rfl
                        apply al_end
                        · (try dsimp only [zS, zN, zH, zT]); try exact rfl
                        apply again_to (m - (j + 1)) (true :: true :: false :: false :: true :: true :: false :: false :: false :: false :: false :: false :: false :: false :: false :: false :: false :: false :: false :: false :: false :: false :: false :: false :: false :: false :: false :: false :: false :: false :: false :: false :: false :: false :: false :: false :: false :: false :: false :: false :: false :: false :: false :: false :: false :: false :: false :: false :: false :: false :: false :: false :: false :: false :: false :: false :: false :: false :: false :: false :: false :: false :: false :: false :: false :: false :: false :: false :: false :: false :: false :: false :: false :: false :: false :: false :: false :: false :: false :: false :: false :: true :: true :: false :: false :: false :: false :: false :: false :: false :: false :: false :: false :: false :: false :: false :: false :: false :: false :: false :: false :: false :: false :: false :: false :: false :: false :: false :: false :: false :: false :: false :: false :: false :: false :: false :: false :: false :: false :: false :: false :: false :: false :: false :: false :: false :: false :: false :: false :: false :: false :: false :: false :: false :: false :: false :: false :: false :: false :: false :: false :: false :: false :: false :: false :: false :: false :: false :: false :: false :: false :: false :: false :: false :: false :: false :: false :: false :: false :: false :: false :: false :: false :: false :: false :: false :: [])
                        · (try dsimp only [maskT]); try exact rfl
                        · rfl
                        · omega
                        exact ⟨j + 1, _, _, rfl, by omega, rfl, by rw [rL_step hnb]; exact ((hv.to _).up hg.new hg.ok).setv _, (GL.step (H := stH H 150 144 rid q (rV d (rL (rV d) j (st2, st1.2)).2).2) (hg.toks rfl) (.inr hv.ext.toks) (by simp) (by rw [rL_step hnb]; simp)).toks rfl⟩
                  · skip
                    (try simp only [decide_eq_true_eq, decide_eq_false_iff_not, beq_iff_eq, beq_eq_false_iff_ne, Bool.not_eq_true', Bool.not_eq_false', bne_iff_ne, ne_eq, Decidable.not_not, bne_eq_false_iff_eq, List.length_map] at hc9)
                    have hje : j = m := by omega
                    subst hje
                    refine aw_exit ?_
                    refine then_exit (again_exit (inBlock_here (inBlock_normal ?_)))
                    apply cut_to (true :: false :: false :: false :: true :: true :: false :: false :: false :: false :: false :: false :: false :: false :: false :: false :: false :: false :: false :: false :: false :: false :: false :: false :: false :: false :: false :: false :: false :: false :: false :: false :: false :: false :: false :: false :: false :: false :: false :: false :: false :: false :: false :: false :: false :: false :: false :: false :: false :: false :: false :: false :: false :: false :: false :: false :: false :: false :: false :: false :: false :: false :: false :: false :: false :: false :: false :: false :: false :: false :: false :: false :: false :: false :: false :: false :: false :: false :: false :: false :: false :: false :: false :: false :: false :: false :: false :: false :: false :: false :: false :: false :: false :: false :: false :: false :: false :: false :: false :: false :: false :: false :: false :: false :: false :: false :: false :: false :: false :: false :: false :: false :: false :: false :: false :: false :: false :: false :: false :: false :: false :: false :: false :: false :: false :: false :: false :: false :: false :: false :: false :: false :: false :: false :: false :: false :: false :: false :: false :: false :: false :: false :: false :: false :: false :: false :: false :: false :: false :: false :: false :: false :: false :: false :: false :: false :: false :: false :: false :: false :: false :: false :: false :: false :: false :: false :: [])
                    · (try dsimp only [maskT]); try exact rfl
                    · rfl
                    exact ⟨4, false, 0, [], v, nilS, (rL (rV d) j (st2, st1.2)).1, [], (rL (rV d) j (st2, st1.2)).2, rfl, hv, Weak.lst hg.app, weak_nilF, by rw [hrv]; simp [rBody, hm1]⟩
                · skip
                  (try simp only [decide_eq_true_eq, decide_eq_false_iff_not, beq_iff_eq, beq_eq_false_iff_ne, Bool.not_eq_true', Bool.not_eq_false', bne_iff_ne, ne_eq, Decidable.not_not, bne_eq_false_iff_eq, List.length_map] at hc8)
                  have hk4 : ¬ k = 4 := hc8
                  refine aw_seq ?_
                  refine aw_region ?_
                  apply al_stepN
                  · exact op_eqI (by rfl) (by rfl)
                  · rfl
                  · (try dsimp only [zS, zN, zH, zT]); try exact rfl
                  apply al_stepN
                  · exact op_assign_tmp (by rfl)
                  · rfl
                  · (try dsimp only [zS, zN, zH, zT]); try exact rfl
                  apply al_end
                  · (try dsimp only [zS, zN, zH, zT]); try exact rfl
                  refine then_normal ?_
                  refine aw_cond rfl (fun hc13 => ?_) (fun hc13 => ?_)
                  · skip
                    (try simp only [decide_eq_true_eq, decide_eq_false_iff_not, beq_iff_eq, beq_eq_false_iff_ne, Bool.not_eq_true', Bool.not_eq_false', bne_iff_ne, ne_eq, Decidable.not_not, bne_eq_false_iff_eq, List.length_map] at hc13)
                    have hk5 : k = 5 := hc13
                    subst hk5
                    obtain ⟨m, st2, hm1⟩ : ∃ a st, rNum 4096 st1.1 = (a, st) := ⟨_, _, rfl⟩
                    have hml := rNum_most hm1
                    have hml : m ≤ 4096 := by omega
                    refine aw_seq ?_
                    refine aw_region ?_
                    apply al_stepN
                    · exact op_move_tmp (by rfl)
                    · rfl
                    · (try dsimp only [zS, zN, zH, zT]); try exact rfl
                    apply al_stepN
                    · first | exact op_nilCheck_ptr (by rfl) | exact op_nilCheck_elt (by rfl)
                    · rfl
                    · (try dsimp only [zS, zN, zH, zT]); try exact rfl
                    apply al_stepN
                    · first | exact op_fieldAddr_ptr Try.underlying144 rfl Sz91 (by rfl) (by rfl) | exact op_fieldAddr_elt Try.underlying144 rfl Sz91 (by rfl) (by rfl) (by rfl)
                    · rfl
                    · (try dsimp only [zS, zN, zH, zT]); try exact rfl
                    apply al_stepN
                    · first | exact op_load_elt Try.underlying91 (by rfl) (by rfl) (by rfl) | exact op_load_ptr Try.underlying91 (by rfl) (by rfl) (by first | exact hPhi | exact hv.rd.q | exact hv.e1 | exact push_ne h.q | exact (hv.set1 _).e1 | exact hw | exact (hv.to _).e1 | exact (hv.far (by omega)).e1) (by rfl)
                    · rfl
                    · (try dsimp only [zS, zN, zH, zT]); try exact rfl
                    apply al_stepN
                    · exact op_callF Try.func56 (by rfl) (by rfl) (.tmp (by rfl) (.const (by rfl) .nil)) (num_at (s := st1.1.1) (bad := st1.1.2) hm1 hv.rd.r (by decide))
                    · rfl
                    · (try dsimp only [zS, zN, zH, zT]); try exact rfl
                    apply al_stepN
                    · exact op_move_const (by rfl)
                    · rfl
                    · (try dsimp only [zS, zN, zH, zT]); try exact rfl
                    apply al_end
                    · (try dsimp only [zS, zN, zH, zT]); try exact rfl
                    refine then_normal ?_
                    refine aw_block ?_
                    apply aw_loopF (fun n T H => ∃ (j : Nat) (v : AV) (t : Option Nat), T = ((.ptr q 0) :: (.d (I ((d + 1 : Nat) : Int))) :: .un :: .un :: (.ptr Hs.nb 0) :: (.ptr (Hs.nb + 1) 0) :: .un :: .un :: .un :: .un :: .un :: .un :: .un :: .un :: .un :: .un :: .un :: .un :: .un :: .un :: .un :: .un :: .un :: .un :: .un :: .un :: .un :: .un :: .un :: .un :: .un :: .un :: .un :: .un :: .un :: .un :: .un :: .un :: .un :: .un :: .un :: .un :: .un :: .un :: .un :: .un :: .un :: .un :: .un :: .un :: .un :: .un :: .un :: .un :: .un :: .un :: .un :: .un :: .un :: .un :: .un :: .un :: .un :: .un :: .un :: .un :: .un :: .un :: .un :: .un :: .un :: .un :: .un :: .un :: .un :: .un :: .un :: .un :: .un :: .un :: .un :: .un :: .un :: .un :: .un :: .un :: .un :: .un :: .un :: .un :: .un :: .un :: .un :: .un :: .un :: .un :: .un :: .un :: .un :: .un :: .un :: .un :: .un :: .un :: .un :: .un :: .un :: .un :: .un :: .un :: .un :: .un :: .un :: (.d (I m)) :: (.d (I j)) :: .un :: .un :: .un :: .un :: .un :: .un :: .un :: .un :: .un :: .un :: .un :: .un :: .un :: .un :: .un :: .un :: .un :: .un :: .un :: .un :: .un :: .un :: .un :: .un :: .un :: .un :: .un :: .un :: .un :: .un :: .un :: .un :: .un :: .un :: .un :: .un :: .un :: .un :: .un :: .un :: .un :: .un :: .un :: .un :: .un :: .un :: .un :: .un :: .un :: .un :: .un :: []) ∧ j ≤ m ∧ n = m - j ∧ VS Hs 150 144 37 rid q H (vBlk 37 5 false 0 [] nilS v) (rF (rV d) j (st2, st1.2)).2 ∧ GL Hs H v t 7 ((rF (rV d) j (st2, st1.2)).1.map fD)) (m) (true :: true :: false :: false :: true :: true :: false :: false :: false :: false :: false :: false :: false :: false :: false :: false :: false :: false :: false :: false :: false :: false :: false :: false :: false :: false :: false :: false :: false :: false :: false :: false :: false :: false :: false :: false :: false :: false :: false :: false :: false :: false :: false :: false :: false :: false :: false :: false :: false :: false :: false :: false :: false :: false :: false :: false :: false :: false :: false :: false :: false :: false :: false :: false :: false :: false :: false :: false :: false :: false :: false :: false :: false :: false :: false :: false :: false :: false :: false :: false :: false :: false :: false :: false :: false :: false :: false :: false :: false :: false :: false :: false :: false :: false :: false :: false :: false :: false :: false :: false :: false :: false :: false :: false :: false :: false :: false :: false :: false :: false :: false :: false :: false :: true :: true :: false :: false :: false :: false :: false :: false :: false :: false :: false :: false :: false :: false :: false :: false :: false :: false :: false :: false :: false :: false :: false :: false :: false :: false :: false :: false :: false :: false :: false :: false :: false :: false :: false :: false :: false :: false :: false :: false :: false :: false :: false :: false :: false :: false :: false :: false :: false :: false :: false :: false :: false :: [])
                    · (try dsimp only [maskT]); try exact rfl
                    · rfl
                    · exact ⟨0, _, _, rfl, by omega, rfl, hv.set1 st2, GL.nil _ _ _⟩
                    rintro n T H ⟨j, v, t, rfl, hj, rfl, hv, hg⟩
                    refine aw_seq ?_
                    refine aw_region ?_
                    apply al_stepN
                    · exact op_ltI (by rfl) (by rfl)
                    · rfl
                    · (try dsimp only [zS, zN, zH, zT]); try exact rfl
                    apply al_end
                    · (try dsimp only [zS, zN, zH, zT]); try exact rfl
                    refine then_normal ?_
                    refine aw_seq ?_
                    refine aw_cond rfl (fun hc14 => ?_) (fun hc14 => ?_)
                    · skip
                      (try simp only [decide_eq_true_eq, decide_eq_false_iff_not, beq_iff_eq, beq_eq_false_iff_ne, Bool.not_eq_true', Bool.not_eq_false', bne_iff_ne, ne_eq, Decidable.not_not, bne_eq_false_iff_eq, List.length_map] at hc14)
                      have hlt : j < m := by omega
                      have hlen := rF_len (rV d) j (st2, st1.2)
                      refine aw_skip ?_
                      refine then_normal ?_
                      refine aw_seq ?_
                      refine aw_block ?_
                      refine aw_seq ?_
                      refine aw_region ?_
                      apply al_stepN
                      · exact op_move_tmp (by rfl)
                      · rfl
                      · (try dsimp only [zS, zN, zH, zT]); try exact rfl
                      apply al_stepN
                      · exact op_assign_tmp (by rfl)
                      · rfl
                      · (try dsimp only [zS, zN, zH, zT]); try exact rfl
                      apply al_end
                      · (try dsimp only [zS, zN, zH, zT]); try exact rfl
                      refine then_normal ?_
                      refine aw_seq ?_
                      refine aw_seq ?_
                      refine aw_region ?_
                      apply al_stepN
                      · exact op_move_tmp (by rfl)
                      · rfl
                      · (try dsimp only [zS, zN, zH, zT]); try exact rfl
                      apply al_stepN
                      · first | exact op_nilCheck_ptr (by rfl) | exact op_nilCheck_elt (by rfl)
                      · rfl
                      · (try dsimp only [zS, zN, zH, zT]); try exact rfl
                      apply al_stepN
                      · first | exact op_fieldAddr_ptr Try.underlying144 rfl Sz26 (by rfl) (by rfl) | exact op_fieldAddr_elt Try.underlying144 rfl Sz26 (by rfl) (by rfl) (by rfl)
                      · rfl
                      · (try dsimp only [zS, zN, zH, zT]); try exact rfl
                      apply al_stepN
                      · first | exact op_load_elt Try.underlying26 (by rfl) (by rfl) (by rfl) | exact op_load_ptr Try.underlying26 (by rfl) (by rfl) (by first | exact hPhi | exact hv.rd.q | exact hv.e1 | exact push_ne h.q | exact (hv.set1 _).e1 | exact hw | exact (hv.to _).e1 | exact (hv.far (by omega)).e1) (by rfl)
                      · rfl
                      · (try dsimp only [zS, zN, zH, zT]); try exact rfl
                      apply al_stepN
                      · exact op_neI (by rfl) (by rfl)
                      · rfl
                      · (try dsimp only [zS, zN, zH, zT]); try exact rfl
                      apply al_stepN
                      · exact op_move_tmp (by rfl)
                      · rfl
                      · (try dsimp only [zS, zN, zH, zT]); try exact rfl
                      refine al_split 122 rfl (fun hg15 => ?_) (fun hg15 => ?_)
                      · skip
                        (try simp only [decide_eq_true_eq, decide_eq_false_iff_not, beq_iff_eq, beq_eq_false_iff_ne, Bool.not_eq_true', Bool.not_eq_false', bne_iff_ne, ne_eq, Decidable.not_not, bne_eq_false_iff_eq, List.length_map] at hg15)
                        have hbk : broke (rF (rV d) j (st2, st1.2)).2 = true := broke_e hg15
                        apply al_normT
                        · (try dsimp only [zS, zN, zH, zT]); try exact rfl
                        refine al_unwanted rfl rfl rfl rfl ?_
                        apply al_normT
                        · (try dsimp only [zS, zN, zH, zT]); try exact rfl
                        refine al_unwanted rfl rfl rfl rfl ?_
                        apply al_normT
                        · (try dsimp only [zS, zN, zH, zT]); try exact rfl
                        refine al_unwanted rfl rfl rfl rfl ?_
                        apply al_normT
                        · (try dsimp only [zS, zN, zH, zT]); try exact rfl
                        refine al_unwanted rfl rfl rfl rfl ?_
                        apply al_normT
                        · (try dsimp only [zS, zN, zH, zT]); try exact rfl
                        refine al_unwanted rfl rfl rfl rfl ?_
                        apply al_normT
                        · (try dsimp only [zS, zN, zH, zT]); try exact rfl
                        refine al_unwanted rfl rfl rfl rfl ?_
                        apply al_normT
                        · (try dsimp only [zS, zN, zH, zT]); try exact rfl
                        apply al_stepN
                        · exact op_pick_tt (by rfl) (val_const (by rfl))
                        · rfl
                        · (try dsimp only [zS, zN, zH, zT]); try exact rfl
                        apply al_end
                        · (try dsimp only [zS, zN, zH, zT]); try exact rfl
                        refine then_normal ?_
                        refine aw_cond rfl (fun _ => ?_) (fun h => by cases h)
                        refine aw_exit ?_
                        refine then_exit (inBlock_past rfl (then_exit (again_exit (inBlock_here (inBlock_normal ?_)))))
                        apply cut_to (true :: false :: false :: false :: true :: true :: false :: false :: false :: false :: false :: false :: false :: false :: false :: false :: false :: false :: false :: false :: false :: false :: false :: false :: false :: false :: false :: false :: false :: false :: false :: false :: false :: false :: false :: false :: false :: false :: false :: false :: false :: false :: false :: false :: false :: false :: false :: false :: false :: false :: false :: false :: false :: false :: false :: false :: false :: false :: false :: false :: false :: false :: false :: false :: false :: false :: false :: false :: false :: false :: false :: false :: false :: false :: false :: false :: false :: false :: false :: false :: false :: false :: false :: false :: false :: false :: false :: false :: false :: false :: false :: false :: false :: false :: false :: false :: false :: false :: false :: false :: false :: false :: false :: false :: false :: false :: false :: false :: false :: false :: false :: false :: false :: false :: false :: false :: false :: false :: false :: false :: false :: false :: false :: false :: false :: false :: false :: false :: false :: false :: false :: false :: false :: false :: false :: false :: false :: false :: false :: false :: false :: false :: false :: false :: false :: false :: false :: false :: false :: false :: false :: false :: false :: false :: false :: false :: false :: false :: false :: false :: false :: false :: false :: false :: false :: false :: [])
                        · (try dsimp only [maskT]); try exact rfl
                        · rfl
                        exact ⟨5, false, 0, [], nilS, v, [], (rF (rV d) j (st2, st1.2)).1, (rF (rV d) j (st2, st1.2)).2, rfl, hv, weak_nilL, Weak.lst hg.app, by rw [hrv]; simp [rBody, hm1, rF_stay hbk m (by omega)]⟩
                      · skip
                        (try simp only [decide_eq_true_eq, decide_eq_false_iff_not, beq_iff_eq, beq_eq_false_iff_ne, Bool.not_eq_true', Bool.not_eq_false', bne_iff_ne, ne_eq, Decidable.not_not, bne_eq_false_iff_eq, List.length_map] at hg15)
                        have he0 : (rF (rV d) j (st2, st1.2)).2.2 = 0 := by simpa using hg15
                        apply al_normT
                        · (try dsimp only [zS, zN, zH, zT]); try exact rfl
                        apply al_wantedN
                        · rfl
                        · rfl
                        · rfl
                        · exact op_move_tmp (by rfl)
                        · (try dsimp only [zS, zN, zH, zT]); try exact rfl
                        apply al_wantedN
                        · rfl
                        · rfl
                        · rfl
                        · first | exact op_nilCheck_ptr (by rfl) | exact op_nilCheck_elt (by rfl)
                        · (try dsimp only [zS, zN, zH, zT]); try exact rfl
                        apply al_wantedN
                        · rfl
                        · rfl
                        · rfl
                        · first | exact op_fieldAddr_ptr Try.underlying144 rfl Sz91 (by rfl) (by rfl) | exact op_fieldAddr_elt Try.underlying144 rfl Sz91 (by rfl) (by rfl) (by rfl)
                        · (try dsimp only [zS, zN, zH, zT]); try exact rfl
                        apply al_wantedN
                        · rfl
                        · rfl
                        · rfl
                        · first | exact op_load_elt Try.underlying91 (by rfl) (by rfl) (by rfl) | exact op_load_ptr Try.underlying91 (by rfl) (by rfl) (by first | exact hPhi | exact hv.rd.q | exact hv.e1 | exact push_ne h.q | exact (hv.set1 _).e1 | exact hw | exact (hv.to _).e1 | exact (hv.far (by omega)).e1) (by rfl)
                        · (try dsimp only [zS, zN, zH, zT]); try exact rfl
                        apply al_wantedN
                        · rfl
                        · rfl
                        · rfl
                        · exact op_callF Try.func95 (by rfl) (by rfl) (.tmp (by rfl) .nil) (err_ok _ rid _ _ hv.rd.r)
                        · (try dsimp only [zS, zN, zH, zT]); try exact rfl
                        apply al_wantedN
                        · rfl
                        · rfl
                        · rfl
                        · exact op_neI (by rfl) (by rfl)
                        · (try dsimp only [zS, zN, zH, zT]); try exact rfl
                        apply al_stepN
                        · exact op_pick_ff (by rfl) (val_tmp (by rfl))
                        · rfl
                        · (try dsimp only [zS, zN, zH, zT]); try exact rfl
                        apply al_end
                        · (try dsimp only [zS, zN, zH, zT]); try exact rfl
                        refine then_normal ?_
                        refine aw_cond rfl (fun hc17 => ?_) (fun hc17 => ?_)
                        · skip
                          (try simp only [decide_eq_true_eq, decide_eq_false_iff_not, beq_iff_eq, beq_eq_false_iff_ne, Bool.not_eq_true', Bool.not_eq_false', bne_iff_ne, ne_eq, Decidable.not_not, bne_eq_false_iff_eq, List.length_map] at hc17)
                          have hbk : broke (rF (rV d) j (st2, st1.2)).2 = true := broke_r hc17
                          refine aw_exit ?_
                          refine then_exit (inBlock_past rfl (then_exit (again_exit (inBlock_here (inBlock_normal ?_)))))
                          apply cut_to (true :: false :: false :: false :: true :: true :: false :: false :: false :: false :: false :: false :: false :: false :: false :: false :: false :: false :: false :: false :: false :: false :: false :: false :: false :: false :: false :: false :: false :: false :: false :: false :: false :: false :: false :: false :: false :: false :: false :: false :: false :: false :: false :: false :: false :: false :: false :: false :: false :: false :: false :: false :: false :: false :: false :: false :: false :: false :: false :: false :: false :: false :: false :: false :: false :: false :: false :: false :: false :: false :: false :: false :: false :: false :: false :: false :: false :: false :: false :: false :: false :: false :: false :: false :: false :: false :: false :: false :: false :: false :: false :: false :: false :: false :: false :: false :: false :: false :: false :: false :: false :: false :: false :: false :: false :: false :: false :: false :: false :: false :: false :: false :: false :: false :: false :: false :: false :: false :: false :: false :: false :: false :: false :: false :: false :: false :: false :: false :: false :: false :: false :: false :: false :: false :: false :: false :: false :: false :: false :: false :: false :: false :: false :: false :: false :: false :: false :: false :: false :: false :: false :: false :: false :: false :: false :: false :: false :: false :: false :: false :: false :: false :: false :: false :: false :: false :: [])
                          · (try dsimp only [maskT]); try exact rfl
                          · rfl
                          exact ⟨5, false, 0, [], nilS, v, [], (rF (rV d) j (st2, st1.2)).1, (rF (rV d) j (st2, st1.2)).2, rfl, hv, weak_nilL, Weak.lst hg.app, by rw [hrv]; simp [rBody, hm1, rF_stay hbk m (by omega)]⟩
                        · skip
                          (try simp only [decide_eq_true_eq, decide_eq_false_iff_not, beq_iff_eq, beq_eq_false_iff_ne, Bool.not_eq_true', Bool.not_eq_false', bne_iff_ne, ne_eq, Decidable.not_not, bne_eq_false_iff_eq, List.length_map] at hc17)
                          have hnb : broke (rF (rV d) j (st2, st1.2)).2 = false := broke_not he0 (by simpa using hc17)
                          have hfl := rF_full (rV d) j _ hnb
                          refine aw_skip ?_
                          refine then_normal ?_
                          apply aw_cutF (fun T H => ∃ (id8 : Nat) (tx : List UInt8) (s3 : RS), T = ((.ptr q 0) :: (.d (I ((d + 1 : Nat) : Int))) :: .un :: .un :: (.ptr Hs.nb 0) :: (.ptr (Hs.nb + 1) 0) :: .un :: (.d (I j)) :: (.ptr id8 0) :: .un :: .un :: .un :: .un :: .un :: .un :: .un :: .un :: .un :: .un :: .un :: .un :: .un :: .un :: .un :: .un :: .un :: .un :: .un :: .un :: .un :: .un :: .un :: .un :: .un :: .un :: .un :: .un :: .un :: .un :: .un :: .un :: .un :: .un :: .un :: .un :: .un :: .un :: .un :: .un :: .un :: .un :: .un :: .un :: .un :: .un :: .un :: .un :: .un :: .un :: .un :: .un :: .un :: .un :: .un :: .un :: .un :: .un :: .un :: .un :: .un :: .un :: .un :: .un :: .un :: .un :: .un :: .un :: .un :: .un :: .un :: .un :: .un :: .un :: .un :: .un :: .un :: .un :: .un :: .un :: .un :: .un :: .un :: .un :: .un :: .un :: .un :: .un :: .un :: .un :: .un :: .un :: .un :: .un :: .un :: .un :: .un :: .un :: .un :: .un :: .un :: .un :: .un :: .un :: (.d (I m)) :: (.d (I j)) :: .un :: .un :: .un :: .un :: .un :: .un :: .un :: .un :: .un :: .un :: .un :: .un :: .un :: .un :: .un :: .un :: .un :: .un :: .un :: .un :: .un :: .un :: .un :: .un :: .un :: .un :: .un :: .un :: .un :: .un :: .un :: .un :: .un :: .un :: .un :: .un :: .un :: .un :: .un :: .un :: .un :: .un :: .un :: .un :: .un :: .un :: .un :: .un :: .un :: .un :: .un :: []) ∧ VS Hs 150 144 37 rid q H (vBlk 37 5 false 0 [] nilS v) (s3, (rF (rV d) j (st2, st1.2)).2.2) ∧ H.blks[id8]? = some ⟨89, [.d (S tx), .d (I 0), .d (TF false), .d (.v (.int .i64 0)), .d (S []), nilS, nilS], false⟩ ∧ Hs.nb + 2 ≤ id8 ∧ GL Hs H v t 7 ((rF (rV d) j (st2, st1.2)).1.map fD) ∧ rText 4096 (rF (rV d) j (st2, st1.2)).2.1 = (tx, s3))
                          · skip
                            refine aw_region ?_
                            apply al_stepN
                            · exact op_move_tmp (by rfl)
                            · rfl
                            · (try dsimp only [zS, zN, zH, zT]); try exact rfl
                            apply al_stepN
                            · first | exact op_nilCheck_ptr (by rfl) | exact op_nilCheck_elt (by rfl)
                            · rfl
                            · (try dsimp only [zS, zN, zH, zT]); try exact rfl
                            apply al_stepN
                            · first | exact op_fieldAddr_ptr Try.underlying144 rfl Sz91 (by rfl) (by rfl) | exact op_fieldAddr_elt Try.underlying144 rfl Sz91 (by rfl) (by rfl) (by rfl)
                            · rfl
                            · (try dsimp only [zS, zN, zH, zT]); try exact rfl
                            apply al_stepN
                            · first | exact op_load_elt Try.underlying91 (by rfl) (by rfl) (by rfl) | exact op_load_ptr Try.underlying91 (by rfl) (by rfl) (by first | exact hPhi | exact hv.rd.q | exact hv.e1 | exact push_ne h.q | exact (hv.set1 _).e1 | exact hw | exact (hv.to _).e1 | exact (hv.far (by omega)).e1) (by rfl)
                            · rfl
                            · (try dsimp only [zS, zN, zH, zT]); try exact rfl
                            apply al_stepN
                            · exact op_callF Try.func57 (by rfl) (by rfl) (.tmp (by rfl) (.const (by rfl) .nil)) (rtext_ok _ rid _ _ 4096 hv.rd.r (by decide))
                            · rfl
                            · (try dsimp only [zS, zN, zH, zT]); try exact rfl
                            apply al_stepN
                            · first | exact op_buildD (pl := [(0, 1), (1, 6)]) _ Try.underlying89 Zr89 (by kernel_rfl) (by rfl) (by rfl) (by rfl) (by simp [DV.one, S, I, TF, BY]) | exact op_build (pl := [(0, 1), (1, 6)]) Try.underlying89 Zr89 (by kernel_rfl) (by rfl) (by rfl) (by rfl)
                            · rfl
                            · (try dsimp only [zS, zN, zH, zT]); try exact rfl
                            apply al_stepN
                            · exact op_alloc (Zr89) (by rfl)
                            · rfl
                            · (try dsimp only [zS, zN, zH, zT]); try exact rfl
                            apply al_stepN
                            · exact op_storeB (vs := [.d (S _), .d (I 0), .d (TF false), .d (.v (.int .i64 0)), .d (S []), nilS, nilS]) (b' := ⟨89, [.d (S _), .d (I 0), .d (TF false), .d (.v (.int .i64 0)), .d (S []), nilS, nilS], false⟩) (H' := _) Sz89 (by rfl) push_at (by intro h; cases h) (by rfl) (by rfl) (Nat.le_of_ble_eq_true rfl) (by simp [AV.one, DV.one, TF, S, I, BY]) (by rfl) (by rfl) rfl
                            · rfl
                            · (try dsimp only [zS, zN, zH, zT]); try exact rfl
                            apply al_end
                            · (try dsimp only [zS, zN, zH, zT]); try exact rfl
                            apply cut_to (true :: true :: false :: false :: true :: true :: false :: true :: true :: false :: false :: false :: false :: false :: false :: false :: false :: false :: false :: false :: false :: false :: false :: false :: false :: false :: false :: false :: false :: false :: false :: false :: false :: false :: false :: false :: false :: false :: false :: false :: false :: false :: false :: false :: false :: false :: false :: false :: false :: false :: false :: false :: false :: false :: false :: false :: false :: false :: false :: false :: false :: false :: false :: false :: false :: false :: false :: false :: false :: false :: false :: false :: false :: false :: false :: false :: false :: false :: false :: false :: false :: false :: false :: false :: false :: false :: false :: false :: false :: false :: false :: false :: false :: false :: false :: false :: false :: false :: false :: false :: false :: false :: false :: false :: false :: false :: false :: false :: false :: false :: false :: false :: false :: true :: true :: false :: false :: false :: false :: false :: false :: false :: false :: false :: false :: false :: false :: false :: false :: false :: false :: false :: false :: false :: false :: false :: false :: false :: false :: false :: false :: false :: false :: false :: false :: false :: false :: false :: false :: false :: false :: false :: false :: false :: false :: false :: false :: false :: false :: false :: false :: false :: false :: false :: false :: false :: [])
                            · (try dsimp only [maskT]); try exact rfl
                            · rfl
                            exact ⟨_, _, _, rfl, ((hv.set1 _).push).far (by have := hv.lt; rw [setB_nb]; omega), setB_at push_at, by have := hv.lt; rw [setB_nb]; omega, hg.toks rfl, rfl⟩
                          rintro T H ⟨id8, tx, s3, rfl, hv, hw, hid, hg, htx⟩
                          apply aw_cutF (fun T H => ∃ (e2 : Int), T = ((.ptr q 0) :: (.d (I ((d + 1 : Nat) : Int))) :: .un :: .un :: (.ptr Hs.nb 0) :: (.ptr (Hs.nb + 1) 0) :: .un :: .un :: (.ptr id8 0) :: .un :: .un :: .un :: .un :: .un :: .un :: .un :: .un :: .un :: .un :: .un :: .un :: .un :: .un :: .un :: .un :: .un :: .un :: .un :: .un :: .un :: .un :: .un :: .un :: .un :: .un :: .un :: .un :: .un :: .un :: .un :: .un :: .un :: .un :: .un :: .un :: .un :: .un :: .un :: .un :: .un :: .un :: .un :: .un :: .un :: .un :: .un :: .un :: .un :: .un :: .un :: .un :: .un :: .un :: .un :: .un :: .un :: .un :: .un :: .un :: .un :: .un :: .un :: .un :: .un :: .un :: .un :: .un :: .un :: .un :: .un :: .un :: .un :: .un :: .un :: .un :: .un :: .un :: .un :: .un :: .un :: .un :: .un :: .un :: .un :: .un :: .un :: .un :: .un :: .un :: .un :: .un :: .un :: .un :: .un :: .un :: .un :: .un :: .un :: .un :: .un :: .un :: .un :: .un :: (.d (I m)) :: (.d (I j)) :: .un :: .un :: .un :: .un :: .un :: .un :: .un :: .un :: .un :: .un :: .un :: .un :: .un :: .un :: .un :: .un :: .un :: .un :: .un :: .un :: .un :: .un :: .un :: .un :: .un :: .un :: .un :: .un :: .un :: .un :: .un :: .un :: .un :: .un :: .un :: .un :: .un :: .un :: .un :: .un :: .un :: .un :: .un :: .un :: .un :: .un :: .un :: .un :: .un :: .un :: .un :: []) ∧ VS Hs 150 144 37 rid q H (vBlk 37 5 false 0 [] nilS v) (s3, e2) ∧ H.blks[id8]? = some ⟨89, [.d (S tx), .d (I 0), .d (TF false), .d (.v (.int .i64 0)), .d (S []), nilS, nilS], false⟩ ∧ GL Hs H v t 7 ((rF (rV d) j (st2, st1.2)).1.map fD) ∧ e2 = if notBelow (rF (rV d) j (st2, st1.2)).1 tx then 2 else (rF (rV d) j (st2, st1.2)).2.2)
                          · skip
                            refine aw_seq ?_
                            refine aw_draw [0, 0, 0, 0, 1, 0, 0, 0, 0, 1, 0, 1, 0, 0] mixed (by kernel_rfl) ?_
                            apply drun0
                            · intro H; exact op_move_tmp (by rfl)
                            · rfl
                            apply drun_normT
                            · (try dsimp only [zS, zN, zH, zT]); try exact rfl
                            apply drun0
                            · intro H; exact op_gtI (by rfl) (by rfl)
                            · rfl
                            apply drun_normT
                            · (try dsimp only [zS, zN, zH, zT]); try exact rfl
                            apply drun0
                            · intro H; exact op_move_tmp (by rfl)
                            · rfl
                            apply drun_normT
                            · (try dsimp only [zS, zN, zH, zT]); try exact rfl
                            refine drun_split 138 rfl (fun hg18 => ?_) (fun hg18 => ?_)
                            · skip
                              (try simp only [decide_eq_true_eq, decide_eq_false_iff_not, beq_iff_eq, beq_eq_false_iff_ne, Bool.not_eq_true', Bool.not_eq_false', bne_iff_ne, ne_eq, Decidable.not_not, bne_eq_false_iff_eq, List.length_map] at hg18)
                              have hj0 : 0 < (j : Int) := hg18
                              obtain ⟨y, hy⟩ : ∃ y, (rF (rV d) j (st2, st1.2)).1[j - 1]? = some y := ⟨_, List.getElem?_eq_getElem (by rw [hfl]; omega)⟩
                              have hnbl := notBelow_at (x := tx) hfl hy
                              apply drun_normT
                              · (try dsimp only [zS, zN, zH, zT]); try exact rfl
                              apply drun0w
                              · rfl
                              · rfl
                              · rfl
                              · intro H; first | exact op_fieldAddr_ptr Try.underlying37 rfl Sz35 (by rfl) (by rfl) | exact op_fieldAddr_elt Try.underlying37 rfl Sz35 (by rfl) (by rfl) (by rfl)
                              apply drun_normT
                              · (try dsimp only [zS, zN, zH, zT]); try exact rfl
                              apply drun1w
                              · rfl
                              · rfl
                              · rfl
                              · first | exact op_load_elt Try.underlying35 (by rfl) (by rfl) (by rfl) | exact op_load_ptr Try.underlying35 (by rfl) (by rfl) (by first | exact hPhi | exact hv.rd.q | exact hv.e1 | exact push_ne h.q | exact (hv.set1 _).e1 | exact hw | exact (hv.to _).e1 | exact (hv.far (by omega)).e1) (by rfl)
                              apply drun_normT
                              · (try dsimp only [zS, zN, zH, zT]); try exact rfl
                              apply drun0w
                              · rfl
                              · rfl
                              · rfl
                              · intro H; exact op_move_tmp (by rfl)
                              apply drun_normT
                              · (try dsimp only [zS, zN, zH, zT]); try exact rfl
                              apply drun0w
                              · rfl
                              · rfl
                              · rfl
                              · intro H; first | exact op_sub (by rfl) (by rfl) (wrap_i64 ⟨by omega, by omega⟩) | exact op_sub (by rfl) (by rfl) (by rfl)
                              apply drun_normT
                              · (try dsimp only [zS, zN, zH, zT]); try exact rfl
                              apply drun0w
                              · rfl
                              · rfl
                              · rfl
                              · intro H; exact op_indexAddr (z := fD y) (cs := S y.name :: vC y.val) Try.underlying35 Sz89 hg.app.ll (by rfl) (by omega) (by rw [show ((j : Int) - 1).toNat = j - 1 by omega, List.getElem?_map, hy]; rfl) (fD_cells y)
                              apply drun_normT
                              · (try dsimp only [zS, zN, zH, zT]); try exact rfl
                              apply drun0w
                              · rfl
                              · rfl
                              · rfl
                              · intro H; first | exact op_fieldAddr_ptr Try.underlying89 rfl Sz9 (by rfl) (by rfl) | exact op_fieldAddr_elt Try.underlying89 rfl Sz9 (by rfl) (by rfl) (by rfl)
                              apply drun_normT
                              · (try dsimp only [zS, zN, zH, zT]); try exact rfl
                              apply drun1w
                              · rfl
                              · rfl
                              · rfl
                              · first | exact op_load_elt Try.underlying9 (by rfl) (by rfl) (by rfl) | exact op_load_ptr Try.underlying9 (by rfl) (by rfl) (by first | exact hPhi | exact hv.rd.q | exact hv.e1 | exact push_ne h.q | exact (hv.set1 _).e1 | exact hw | exact (hv.to _).e1 | exact (hv.far (by omega)).e1) (by rfl)
                              apply drun_normT
                              · (try dsimp only [zS, zN, zH, zT]); try exact rfl
                              apply drun0w
                              · rfl
                              · rfl
                              · rfl
                              · intro H; first | exact op_fieldAddr_ptr Try.underlying89 rfl Sz9 (by rfl) (by rfl) | exact op_fieldAddr_elt Try.underlying89 rfl Sz9 (by rfl) (by rfl) (by rfl)
                              apply drun_normT
                              · (try dsimp only [zS, zN, zH, zT]); try exact rfl
                              apply drun1w
                              · rfl
                              · rfl
                              · rfl
                              · first | exact op_load_elt Try.underlying9 (by rfl) (by rfl) (by rfl) | exact op_load_ptr Try.underlying9 (by rfl) (by rfl) (by first | exact hPhi | exact hv.rd.q | exact hv.e1 | exact push_ne h.q | exact (hv.set1 _).e1 | exact hw | exact (hv.to _).e1 | exact (hv.far (by omega)).e1) (by rfl)
                              apply drun_normT
                              · (try dsimp only [zS, zN, zH, zT]); try exact rfl
                              apply drun0w
                              · rfl
                              · rfl
                              · rfl
                              · intro H; exact op_geS (by rfl) (by rfl)
                              apply drun_normT
                              · (try dsimp only [zS, zN, zH, zT]); try exact rfl
                              apply drun0
                              · intro H; exact op_pick_tt (by rfl) (val_tmp (by rfl))
                              · rfl
                              apply drun_normT
                              · (try dsimp only [zS, zN, zH, zT]); try exact rfl
                              apply drun_end
                              · (try dsimp only [zS, zN, zH, zT]); try exact rfl
                              refine then_normal ?_
                              refine aw_cond rfl (fun hc19 => ?_) (fun hc19 => ?_)
                              · skip
                                (try simp only [decide_eq_true_eq, decide_eq_false_iff_not, beq_iff_eq, beq_eq_false_iff_ne, Bool.not_eq_true', Bool.not_eq_false', bne_iff_ne, ne_eq, Decidable.not_not, bne_eq_false_iff_eq, List.length_map] at hc19)
                                have hlx : Op.bytesLess y.name tx = false := by simpa using hc19
                                refine aw_region ?_
                                apply al_stepN
                                · exact op_move_tmp (by rfl)
                                · rfl
                                · (try dsimp only [zS, zN, zH, zT]); try exact rfl
                                apply al_stepN
                                · first | exact op_nilCheck_ptr (by rfl) | exact op_nilCheck_elt (by rfl)
                                · rfl
                                · (try dsimp only [zS, zN, zH, zT]); try exact rfl
                                apply al_stepN
                                · first | exact op_fieldAddr_ptr Try.underlying144 rfl Sz26 (by rfl) (by rfl) | exact op_fieldAddr_elt Try.underlying144 rfl Sz26 (by rfl) (by rfl) (by rfl)
                                · rfl
                                · (try dsimp only [zS, zN, zH, zT]); try exact rfl
                                apply al_stepN
                                · exact op_storeB (vs := [.d (I 2)]) (b' := (VB 144 rid 2)) (H' := _) Sz26 (by rfl) hv.rd.q (by intro h; cases h) (by rfl) (by rfl) (Nat.le_of_ble_eq_true rfl) (by simp [AV.one, DV.one, TF, S, I, BY]) (by rfl) (by rfl) rfl
                                · rfl
                                · (try dsimp only [zS, zN, zH, zT]); try exact rfl
                                apply al_end
                                · (try dsimp only [zS, zN, zH, zT]); try exact rfl
                                apply cut_to (true :: true :: false :: false :: true :: true :: false :: false :: true :: false :: false :: false :: false :: false :: false :: false :: false :: false :: false :: false :: false :: false :: false :: false :: false :: false :: false :: false :: false :: false :: false :: false :: false :: false :: false :: false :: false :: false :: false :: false :: false :: false :: false :: false :: false :: false :: false :: false :: false :: false :: false :: false :: false :: false :: false :: false :: false :: false :: false :: false :: false :: false :: false :: false :: false :: false :: false :: false :: false :: false :: false :: false :: false :: false :: false :: false :: false :: false :: false :: false :: false :: false :: false :: false :: false :: false :: false :: false :: false :: false :: false :: false :: false :: false :: false :: false :: false :: false :: false :: false :: false :: false :: false :: false :: false :: false :: false :: false :: false :: false :: false :: false :: false :: true :: true :: false :: false :: false :: false :: false :: false :: false :: false :: false :: false :: false :: false :: false :: false :: false :: false :: false :: false :: false :: false :: false :: false :: false :: false :: false :: false :: false :: false :: false :: false :: false :: false :: false :: false :: false :: false :: false :: false :: false :: false :: false :: false :: false :: false :: false :: false :: false :: false :: false :: false :: false :: [])
                                · (try dsimp only [maskT]); try exact rfl
                                · rfl
                                exact ⟨2, rfl, hv.set2 2, (by rw [setB_ne (by have := hv.lq; omega)]; exact hw), hg.toks rfl, by rw [hnbl, hlx]; rfl⟩
                              · skip
                                (try simp only [decide_eq_true_eq, decide_eq_false_iff_not, beq_iff_eq, beq_eq_false_iff_ne, Bool.not_eq_true', Bool.not_eq_false', bne_iff_ne, ne_eq, Decidable.not_not, bne_eq_false_iff_eq, List.length_map] at hc19)
                                have hlx : Op.bytesLess y.name tx = true := by simpa using hc19
                                refine aw_skip ?_
                                apply cut_to (true :: true :: false :: false :: true :: true :: false :: false :: true :: false :: false :: false :: false :: false :: false :: false :: false :: false :: false :: false :: false :: false :: false :: false :: false :: false :: false :: false :: false :: false :: false :: false :: false :: false :: false :: false :: false :: false :: false :: false :: false :: false :: false :: false :: false :: false :: false :: false :: false :: false :: false :: false :: false :: false :: false :: false :: false :: false :: false :: false :: false :: false :: false :: false :: false :: false :: false :: false :: false :: false :: false :: false :: false :: false :: false :: false :: false :: false :: false :: false :: false :: false :: false :: false :: false :: false :: false :: false :: false :: false :: false :: false :: false :: false :: false :: false :: false :: false :: false :: false :: false :: false :: false :: false :: false :: false :: false :: false :: false :: false :: false :: false :: false :: true :: true :: false :: false :: false :: false :: false :: false :: false :: false :: false :: false :: false :: false :: false :: false :: false :: false :: false :: false :: false :: false :: false :: false :: false :: false :: false :: false :: false :: false :: false :: false :: false :: false :: false :: false :: false :: false :: false :: false :: false :: false :: false :: false :: false :: false :: false :: false :: false :: false :: false :: false :: false :: [])
                                · (try dsimp only [maskT]); try exact rfl
                                · rfl
                                exact ⟨(rF (rV d) j (st2, st1.2)).2.2, rfl, hv, hw, hg, by rw [hnbl, hlx]; rfl⟩
                            · skip
                              (try simp only [decide_eq_true_eq, decide_eq_false_iff_not, beq_iff_eq, beq_eq_false_iff_ne, Bool.not_eq_true', Bool.not_eq_false', bne_iff_ne, ne_eq, Decidable.not_not, bne_eq_false_iff_eq, List.length_map] at hg18)
                              have hj0 : j = 0 := by have : ¬ 0 < (j : Int) := hg18; omega
                              apply drun_normT
                              · (try dsimp only [zS, zN, zH, zT]); try exact rfl
                              refine drunU rfl rfl rfl rfl ?_
                              apply drun_normT
                              · (try dsimp only [zS, zN, zH, zT]); try exact rfl
                              refine drunU rfl rfl rfl rfl ?_
                              apply drun_normT
                              · (try dsimp only [zS, zN, zH, zT]); try exact rfl
                              refine drunU rfl rfl rfl rfl ?_
                              apply drun_normT
                              · (try dsimp only [zS, zN, zH, zT]); try exact rfl
                              refine drunU rfl rfl rfl rfl ?_
                              apply drun_normT
                              · (try dsimp only [zS, zN, zH, zT]); try exact rfl
                              refine drunU rfl rfl rfl rfl ?_
                              apply drun_normT
                              · (try dsimp only [zS, zN, zH, zT]); try exact rfl
                              refine drunU rfl rfl rfl rfl ?_
                              apply drun_normT
                              · (try dsimp only [zS, zN, zH, zT]); try exact rfl
                              refine drunU rfl rfl rfl rfl ?_
                              apply drun_normT
                              · (try dsimp only [zS, zN, zH, zT]); try exact rfl
                              refine drunU rfl rfl rfl rfl ?_
                              apply drun_normT
                              · (try dsimp only [zS, zN, zH, zT]); try exact rfl
                              refine drunU rfl rfl rfl rfl ?_
                              apply drun_normT
                              · (try dsimp only [zS, zN, zH, zT]); try exact rfl
                              refine drunU rfl rfl rfl rfl ?_
                              apply drun_normT
                              · (try dsimp only [zS, zN, zH, zT]); try exact rfl
                              apply drun0
                              · intro H; exact op_pick_ff (by rfl) (val_const (by rfl))
                              · rfl
                              apply drun_normT
                              · (try dsimp only [zS, zN, zH, zT]); try exact rfl
                              apply drun_end
                              · (try dsimp only [zS, zN, zH, zT]); try exact rfl
                              refine then_normal ?_
                              refine aw_cond rfl (fun h => by cases h) (fun _ => ?_)
                              refine aw_skip ?_
                              apply cut_to (true :: true :: false :: false :: true :: true :: false :: false :: true :: false :: false :: false :: false :: false :: false :: false :: false :: false :: false :: false :: false :: false :: false :: false :: false :: false :: false :: false :: false :: false :: false :: false :: false :: false :: false :: false :: false :: false :: false :: false :: false :: false :: false :: false :: false :: false :: false :: false :: false :: false :: false :: false :: false :: false :: false :: false :: false :: false :: false :: false :: false :: false :: false :: false :: false :: false :: false :: false :: false :: false :: false :: false :: false :: false :: false :: false :: false :: false :: false :: false :: false :: false :: false :: false :: false :: false :: false :: false :: false :: false :: false :: false :: false :: false :: false :: false :: false :: false :: false :: false :: false :: false :: false :: false :: false :: false :: false :: false :: false :: false :: false :: false :: false :: true :: true :: false :: false :: false :: false :: false :: false :: false :: false :: false :: false :: false :: false :: false :: false :: false :: false :: false :: false :: false :: false :: false :: false :: false :: false :: false :: false :: false :: false :: false :: false :: false :: false :: false :: false :: false :: false :: false :: false :: false :: false :: false :: false :: false :: false :: false :: false :: false :: false :: false :: false :: false :: [])
                              · (try dsimp only [maskT]); try exact rfl
                              · rfl
                              exact ⟨(rF (rV d) j (st2, st1.2)).2.2, rfl, hv, hw, hg, by subst hj0; rfl⟩
                          rintro T H ⟨e2, rfl, hv, hw, hg, he2⟩
                          refine aw_seq ?_
                          refine aw_region ?_
                          apply al_stepN
                          · exact op_move_tmp (by rfl)
                          · rfl
                          · (try dsimp only [zS, zN, zH, zT]); try exact rfl
                          apply al_stepN
                          · exact op_move_tmp (by rfl)
                          · rfl
                          · (try dsimp only [zS, zN, zH, zT]); try exact rfl
                          apply al_stepN
                          · exact op_sub (by rfl) (by rfl) (show IntKind.i64.wrap (((d + 1 : Nat) : Int) - 1) = (d : Int) by rw [wrap_i64 ⟨by omega, by omega⟩]; omega)
                          · rfl
                          · (try dsimp only [zS, zN, zH, zT]); try exact rfl
                          apply al_stepN
                          · exact op_callF Try.func88 (by rfl) (by rfl) (.tmp (by rfl) (.tmp (by rfl) .nil)) (ih d rfl _ _ hv.rd)
                          · rfl
                          · (try dsimp only [zS, zN, zH, zT]); try exact rfl
                          apply al_stepN
                          · first | exact op_fieldAddr_ptr Try.underlying89 rfl Sz37 (by rfl) (by rfl) | exact op_fieldAddr_elt Try.underlying89 rfl Sz37 (by rfl) (by rfl) (by rfl)
                          · rfl
                          · (try dsimp only [zS, zN, zH, zT]); try exact rfl
                          apply al_stepN
                          · exact op_storeV (rV d _).1 Sz37 (by rfl) (by first | exact hw | (rw [show (stH H 150 144 rid q _).blks[id8]? = H.blks[id8]? from set2_ne (by have := hv.lr; omega) (by have := hv.lq; omega)]; exact hw)) (by rfl) (Nat.le_of_ble_eq_true rfl) (by rfl) (f0_put 89 tx _)
                          · rfl
                          · (try dsimp only [zS, zN, zH, zT]); try exact rfl
                          apply al_end
                          · (try dsimp only [zS, zN, zH, zT]); try exact rfl
                          refine then_normal ?_
                          refine aw_region ?_
                          apply al_stepN
                          · first | exact op_fieldAddr_ptr Try.underlying37 rfl Sz35 (by rfl) (by rfl) | exact op_fieldAddr_elt Try.underlying37 rfl Sz35 (by rfl) (by rfl) (by rfl)
                          · rfl
                          · (try dsimp only [zS, zN, zH, zT]); try exact rfl
                          apply al_stepN
                          · exact op_load_ptr Try.underlying35 (by rfl) (by rfl) ((hv.to _).far hid).e1 (by rfl)
                          · rfl
                          · (try dsimp only [zS, zN, zH, zT]); try exact rfl
                          apply al_stepN
                          · exact op_loadF 89 (.mk tx (rV d (s3, e2)).1) Try.underlying89 (by rfl) Sz89 (by rfl) (setB_at (b := ⟨89, [.d (S tx), .d (I 0), .d (TF false), .d (.v (.int .i64 0)), .d (S []), nilS, nilS], false⟩) (by rw [show (stH H 150 144 rid q _).blks[id8]? = H.blks[id8]? from set2_ne (by have := hv.lr; omega) (by have := hv.lq; omega)]; exact hw))
                          · rfl
                          · (try dsimp only [zS, zN, zH, zT]); try exact rfl
                          apply al_stepN
                          · exact op_lit Try.underlying35 ZS89 (.cons (y := fD (.mk tx (rV d (s3, e2)).1)) (by rfl) (.nil _)) (by rfl) (lit_f _) (lit_f1 _) (by decide)
                          · rfl
                          · (try dsimp only [zS, zN, zH, zT]); try exact rfl
                          apply al_stepN
                          · exact op_append Try.underlying35 Inf89 (by rfl) hg.app (.list _ _ _ _ Try.underlying35 (LL.own _ _ _)) hg.ok (by simp) (by simp; omega) (by simp; omega)
                          · rfl
                          · (try dsimp only [zS, zN, zH, zT]); try exact rfl
                          apply al_stepN
                          · first | exact op_fieldAddr_ptr Try.underlying37 rfl Sz35 (by rfl) (by rfl) | exact op_fieldAddr_elt Try.underlying37 rfl Sz35 (by rfl) (by rfl) (by rfl)
                          · rfl
                          · (try dsimp only [zS, zN, zH, zT]); try exact rfl
                          apply al_stepN
                          · exact op_storeB (vs := [.own _ 7 _]) (b' := (vBlk 37 5 false 0 [] nilS (.own _ 7 _))) (H' := _) Sz35 (by rfl) (((hv.to _).far hid).up hg.new hg.ok).e1 (by intro h; cases h) (by rfl) (by rfl) (Nat.le_of_ble_eq_true rfl) (by simp [AV.one, DV.one, TF, S, I, BY]) (by rfl) (by rfl) rfl
                          · rfl
                          · (try dsimp only [zS, zN, zH, zT]); try exact rfl
                          apply al_end
                          · (try dsimp only [zS, zN, zH, zT]); try exact rfl
                          refine inBlock_normal (then_normal ?_)
                          refine aw_region ?_
                          apply al_stepN
                          · first | exact op_add (by rfl) (by rfl) (wrap_i64 ⟨by omega, by omega⟩) | exact op_add (by rfl) (by rfl) (by rfl)
                          · rfl
                          · (try dsimp only [zS, zN, zH, zT]); try exact rfl
                          apply al_stepN
                          · exact op_move_tmp (by rfl)
                          · rfl
                          · (try dsimp only [zS, zN, zH, zT]); try exact rfl
                          apply al_end
                          · (try dsimp only [zS, zN, zH, zT]); try exact rfl
                          have hst : rF (rV d) (j + 1) (st2, st1.2) = ((rF (rV d) j (st2, st1.2)).1 ++ [.mk tx (rV d (s3, e2)).1], (rV d (s3, e2)).2) := by rw [rF_step hnb, htx, ← he2]
                          apply again_to (m - (j + 1)) (true :: true :: false :: false :: true :: true :: false :: false :: false :: false :: false :: false :: false :: false :: false :: false :: false :: false :: false :: false :: false :: false :: false :: false :: false :: false :: false :: false :: false :: false :: false :: false :: false :: false :: false :: false :: false :: false :: false :: false :: false :: false :: false :: false :: false :: false :: false :: false :: false :: false :: false :: false :: false :: false :: false :: false :: false :: false :: false :: false :: false :: false :: false :: false :: false :: false :: false :: false :: false :: false :: false :: false :: false :: false :: false :: false :: false :: false :: false :: false :: false :: false :: false :: false :: false :: false :: false :: false :: false :: false :: false :: false :: false :: false :: false :: false :: false :: false :: false :: false :: false :: false :: false :: false :: false :: false :: false :: false :: false :: false :: false :: false :: false :: true :: true :: false :: false :: false :: false :: false :: false :: false :: false :: false :: false :: false :: false :: false :: false :: false :: false :: false :: false :: false :: false :: false :: false :: false :: false :: false :: false :: false :: false :: false :: false :: false :: false :: false :: false :: false :: false :: false :: false :: false :: false :: false :: false :: false :: false :: false :: false :: false :: false :: false :: false :: false :: [])
                          · (try dsimp only [maskT]); try exact rfl
                          · rfl
                          · omega
                          exact ⟨j + 1, _, _, rfl, by omega, rfl, by rw [hst]; exact ((((hv.to _).far hid).up hg.new hg.ok).setv _), (GL.step (H := (stH H 150 144 rid q (rV d (s3, e2)).2).setB id8 _) (hg.toks rfl) (.inr hv.ext.toks) (by simp) (by rw [hst]; simp)).toks rfl⟩
                    · skip
                      (try simp only [decide_eq_true_eq, decide_eq_false_iff_not, beq_iff_eq, beq_eq_false_iff_ne, Bool.not_eq_true', Bool.not_eq_false', bne_iff_ne, ne_eq, Decidable.not_not, bne_eq_false_iff_eq, List.length_map] at hc14)
                      have hje : j = m := by omega
                      subst hje
                      refine aw_exit ?_
                      refine then_exit (again_exit (inBlock_here (inBlock_normal ?_)))
                      apply cut_to (true :: false :: false :: false :: true :: true :: false :: false :: false :: false :: false :: false :: false :: false :: false :: false :: false :: false :: false :: false :: false :: false :: false :: false :: false :: false :: false :: false :: false :: false :: false :: false :: false :: false :: false :: false :: false :: false :: false :: false :: false :: false :: false :: false :: false :: false :: false :: false :: false :: false :: false :: false :: false :: false :: false :: false :: false :: false :: false :: false :: false :: false :: false :: false :: false :: false :: false :: false :: false :: false :: false :: false :: false :: false :: false :: false :: false :: false :: false :: false :: false :: false :: false :: false :: false :: false :: false :: false :: false :: false :: false :: false :: false :: false :: false :: false :: false :: false :: false :: false :: false :: false :: false :: false :: false :: false :: false :: false :: false :: false :: false :: false :: false :: false :: false :: false :: false :: false :: false :: false :: false :: false :: false :: false :: false :: false :: false :: false :: false :: false :: false :: false :: false :: false :: false :: false :: false :: false :: false :: false :: false :: false :: false :: false :: false :: false :: false :: false :: false :: false :: false :: false :: false :: false :: false :: false :: false :: false :: false :: false :: false :: false :: false :: false :: false :: false :: [])
                      · (try dsimp only [maskT]); try exact rfl
                      · rfl
                      exact ⟨5, false, 0, [], nilS, v, [], (rF (rV d) j (st2, st1.2)).1, (rF (rV d) j (st2, st1.2)).2, rfl, hv, weak_nilL, Weak.lst hg.app, by rw [hrv]; simp [rBody, hm1]⟩
                  · skip
                    (try simp only [decide_eq_true_eq, decide_eq_false_iff_not, beq_iff_eq, beq_eq_false_iff_ne, Bool.not_eq_true', Bool.not_eq_false', bne_iff_ne, ne_eq, Decidable.not_not, bne_eq_false_iff_eq, List.length_map] at hc13)
                    have hk5 : ¬ k = 5 := hc13
                    refine aw_skip ?_
                    refine inBlock_normal ?_
                    apply cut_to (true :: false :: false :: false :: true :: true :: false :: false :: false :: false :: false :: false :: false :: false :: false :: false :: false :: false :: false :: false :: false :: false :: false :: false :: false :: false :: false :: false :: false :: false :: false :: false :: false :: false :: false :: false :: false :: false :: false :: false :: false :: false :: false :: false :: false :: false :: false :: false :: false :: false :: false :: false :: false :: false :: false :: false :: false :: false :: false :: false :: false :: false :: false :: false :: false :: false :: false :: false :: false :: false :: false :: false :: false :: false :: false :: false :: false :: false :: false :: false :: false :: false :: false :: false :: false :: false :: false :: false :: false :: false :: false :: false :: false :: false :: false :: false :: false :: false :: false :: false :: false :: false :: false :: false :: false :: false :: false :: false :: false :: false :: false :: false :: false :: false :: false :: false :: false :: false :: false :: false :: false :: false :: false :: false :: false :: false :: false :: false :: false :: false :: false :: false :: false :: false :: false :: false :: false :: false :: false :: false :: false :: false :: false :: false :: false :: false :: false :: false :: false :: false :: false :: false :: false :: false :: false :: false :: false :: false :: false :: false :: false :: false :: false :: false :: false :: false :: [])
                    · (try dsimp only [maskT]); try exact rfl
                    · rfl
                    exact ⟨k, false, 0, [], nilS, nilS, [], [], st1, rfl, hv, weak_nilL, weak_nilF, by rw [hrv]; simp [rBody, hk1, hk2, hk3, hk4, hk5]⟩
        rintro T H ⟨k, y, i, tx, l, f, ls, fs, st2, rfl, hv, hwl, hwf, hres⟩
        refine aw_seq ?_
        refine aw_region ?_
        apply al_stepN
        · exact op_load_ptrsW (off := 0) (vC (.mk k y i tx ls fs)) Try.underlying37 (by rfl) Sz37 (by rfl) hv.e1 (Nat.le_of_ble_eq_true rfl) (weak6 hwl hwf) (vC_one _)
        · rfl
        · (try dsimp only [zS, zN, zH, zT]); try exact rfl
        apply al_stepN
        · exact op_storeV (b' := ⟨37, (vC (.mk k y i tx ls fs)).map .d, false⟩) (.mk k y i tx ls fs) Sz37 (by rfl) (hv.e0.choose_spec.choose_spec.choose_spec.choose_spec.choose_spec.choose_spec) (by rfl) (Nat.le_of_ble_eq_true rfl) (by rfl) (by rfl)
        · rfl
        · (try dsimp only [zS, zN, zH, zT]); try exact rfl
        apply al_end
        · (try dsimp only [zS, zN, zH, zT]); try exact rfl
        refine then_normal ?_
        refine aw_ret ?_
        refine retC1 rfl (.cells Try.underlying37 (by rfl) Sz37 (by rfl) (setB_at (hv.e0.choose_spec.choose_spec.choose_spec.choose_spec.choose_spec.choose_spec)) (Nat.le_of_ble_eq_true rfl) (by rfl)) ?_
        rw [hres]
        exact ⟨weak_agg_d (vC_one (.mk k y i tx ls fs)), hv.ext.setB (by rw [stH_nb]; exact Nat.le_refl _)⟩
end Go.Proofs.Ytadkehaagkjbhaa
