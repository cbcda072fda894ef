/- What the functions of layer 2 that are called from without come to. -/
import Derived.Test.YtadkehaagkjbhaaValW3
import Derived.Test.YtadkehaagkjbhaaValR
import Derived.Test.YtadkehaagkjbhaaValC
import Derived.KernelRfl
namespace Go.Proofs.Ytadkehaagkjbhaa
open Go.AV Go.AV.Ord Go.AV.Oct Go.AV.Val
set_option linter.unusedVariables false
set_option linter.unusedSimpArgs false
/- Right. -/
set_option maxRecDepth 100000 in
theorem right_ok' (Hs : HS) (v : V) (hv : SmallV v) : ACalls Try.prog 41 [.d (.agg (vC v))] Hs (Ret (.d (TF (rightV 32 v))) Hs) := by
  refine acalls_of_aw Try.func41 rfl ?_
  refine aw_start (T' := [.d (.agg (vC v)), .un, .un, .un, .un]) rfl ?_
  refine aw_seq ?_
  refine aw_region ?_
  apply al_stepN
  · exact op_box_elt (cs := [I v.kind, TF v.yes, .v (.int .i64 v.num), S v.text, .lst 6 (v.list.map vD), .lst 7 (v.fields.map fD)]) (by rfl) (vD_cells v)
  · rfl
  · (try dsimp only [zS, zN, zH, zT]); try exact rfl
  apply al_stepN
  · exact op_assign_const (by rfl)
  · rfl
  · (try dsimp only [zS, zN, zH, zT]); try exact rfl
  apply al_end
  · (try dsimp only [zS, zN, zH, zT]); try exact rfl
  refine then_normal ?_
  refine aw_seq ?_
  refine aw_region ?_
  apply al_stepN
  · exact op_load_elts (ds := vC v) Try.underlying37 (by rfl) Sz37 (by rfl) (Nat.le_of_ble_eq_true rfl) (by rw [vC_eq]; rfl)
  · rfl
  · (try dsimp only [zS, zN, zH, zT]); try exact rfl
  apply al_stepN
  · exact op_callF Try.func86 (by rfl) (by rfl) (.tmp (by rfl) (.const (by rfl) .nil)) (right_all 32 v (by decide) hv _)
  · rfl
  · (try dsimp only [zS, zN, zH, zT]); try exact rfl
  apply al_stepN
  · exact op_assign_tmp (by rfl)
  · rfl
  · (try dsimp only [zS, zN, zH, zT]); try exact rfl
  apply al_end
  · (try dsimp only [zS, zN, zH, zT]); try exact rfl
  refine then_normal ?_
  refine aw_ret ?_
  refine retPost1 rfl rfl ?_
  exact ⟨rfl, rfl⟩
/- A value as bytes. -/
set_option maxRecDepth 100000 in
theorem venc_ok (Hs : HS) (v : V) (hv : SmallV v) (hw : WfV v) (hB : (encV v).length ≤ 1000000000) : ACalls Try.prog 43 [.d (.agg (vC v))] Hs (Ret (.tup [.d (S (encO v).1), .d (I (encO v).2)]) Hs) := by
  refine ACalls.tidyT (xs := [S (encO v).1, I (encO v).2]) ?_
  refine acalls_of_aw Try.func43 rfl ?_
  refine aw_start (T' := [.d (.agg (vC v)), .un, .un, .un, .un, .un, .un, .un, .un, .un, .un, .un, .un, .un, .un]) rfl ?_
  refine aw_seq ?_
  refine aw_region ?_
  apply al_stepN
  · exact op_box_elt (cs := [I v.kind, TF v.yes, .v (.int .i64 v.num), S v.text, .lst 6 (v.list.map vD), .lst 7 (v.fields.map fD)]) (by rfl) (vD_cells v)
  · rfl
  · (try dsimp only [zS, zN, zH, zT]); try exact rfl
  apply al_stepN
  · exact op_assign_const (by rfl)
  · rfl
  · (try dsimp only [zS, zN, zH, zT]); try exact rfl
  apply al_stepN
  · exact op_assign_const (by rfl)
  · rfl
  · (try dsimp only [zS, zN, zH, zT]); try exact rfl
  apply al_end
  · (try dsimp only [zS, zN, zH, zT]); try exact rfl
  refine then_normal ?_
  refine aw_seq ?_
  refine aw_seq ?_
  refine aw_region ?_
  apply al_stepN
  · exact op_load_elts (ds := vC v) Try.underlying37 (by rfl) Sz37 (by rfl) (Nat.le_of_ble_eq_true rfl) (by rw [vC_eq]; rfl)
  · rfl
  · (try dsimp only [zS, zN, zH, zT]); try exact rfl
  apply al_stepN
  · exact op_callF Try.func41 (by rfl) (by rfl) (.tmp (by rfl) .nil) (right_ok' _ v hv)
  · rfl
  · (try dsimp only [zS, zN, zH, zT]); try exact rfl
  apply al_stepN
  · exact op_not (by rfl)
  · rfl
  · (try dsimp only [zS, zN, zH, zT]); try exact rfl
  apply al_end
  · (try dsimp only [zS, zN, zH, zT]); try exact rfl
  refine then_normal ?_
  refine aw_cond rfl (fun hc1 => ?_) (fun hc1 => ?_)
  · skip
    (try simp only [decide_eq_true_eq, decide_eq_false_iff_not, beq_iff_eq, beq_eq_false_iff_ne, Bool.not_eq_true', Bool.not_eq_false', bne_iff_ne, ne_eq, Decidable.not_not, bne_eq_false_iff_eq, List.length_map] at hc1)
    have hR : rightV 32 v = false := by simpa using hc1
    refine aw_seq ?_
    refine aw_region ?_
    apply al_stepN
    · exact op_assign_const (by rfl)
    · rfl
    · (try dsimp only [zS, zN, zH, zT]); try exact rfl
    apply al_stepN
    · exact op_assign_const (by rfl)
    · rfl
    · (try dsimp only [zS, zN, zH, zT]); try exact rfl
    apply al_end
    · (try dsimp only [zS, zN, zH, zT]); try exact rfl
    refine then_normal ?_
    refine aw_ret ?_
    refine then_ret ?_
    refine retPost2 rfl rfl rfl ?_
    have e : encO v = ([], 1) := by simp [encO, hR]
    exact ⟨by (rw [e]) <;> rfl, Ext.refl _⟩
  · skip
    (try simp only [decide_eq_true_eq, decide_eq_false_iff_not, beq_iff_eq, beq_eq_false_iff_ne, Bool.not_eq_true', Bool.not_eq_false', bne_iff_ne, ne_eq, Decidable.not_not, bne_eq_false_iff_eq, List.length_map] at hc1)
    have hR : rightV 32 v = true := by simpa using hc1
    refine aw_skip ?_
    refine then_normal ?_
    refine aw_seq ?_
    refine aw_region ?_
    apply al_stepN
    · exact op_load_elts (ds := vC v) Try.underlying37 (by rfl) Sz37 (by rfl) (Nat.le_of_ble_eq_true rfl) (by rw [vC_eq]; rfl)
    · rfl
    · (try dsimp only [zS, zN, zH, zT]); try exact rfl
    apply al_stepN
    · exact op_callF Try.func87 (by rfl) (by rfl) (.tmp (by rfl) (.const (by rfl) .nil)) ((by have h := lay_ok 32 v hR hw Hs none _ [] (App.nil _) (HS.ok_none _ _) (by simpa using hB); simpa using h))
    · rfl
    · (try dsimp only [zS, zN, zH, zT]); try exact rfl
    apply al_stepN
    · exact op_assign_tmp (by rfl)
    · rfl
    · (try dsimp only [zS, zN, zH, zT]); try exact rfl
    apply al_end
    · (try dsimp only [zS, zN, zH, zT]); try exact rfl
    refine then_normal ?_
    refine aw_seq ?_
    refine aw_seq ?_
    refine aw_region ?_
    apply al_stepN
    · exact op_move_tmp (by rfl)
    · rfl
    · (try dsimp only [zS, zN, zH, zT]); try exact rfl
    apply al_stepN
    · exact op_lenL Try.underlying86 (by first | exact LL.d _ _ | exact LL.own _ _ _ | exact LL.nil _ | assumption)
    · rfl
    · (try dsimp only [zS, zN, zH, zT]); try exact rfl
    apply al_stepN
    · exact op_gtI (by rfl) (by rfl)
    · rfl
    · (try dsimp only [zS, zN, zH, zT]); try exact rfl
    apply al_end
    · (try dsimp only [zS, zN, zH, zT]); try exact rfl
    refine then_normal ?_
    refine aw_cond rfl (fun hc2 => ?_) (fun hc2 => ?_)
    · skip
      (try simp only [decide_eq_true_eq, decide_eq_false_iff_not, beq_iff_eq, beq_eq_false_iff_ne, Bool.not_eq_true', Bool.not_eq_false', bne_iff_ne, ne_eq, Decidable.not_not, bne_eq_false_iff_eq, List.length_map] at hc2)
      (try simp only [List.length_map] at hc2)
      have hL : 4096 < (encV v).length := by omega
      refine aw_seq ?_
      refine aw_region ?_
      apply al_stepN
      · exact op_assign_const (by rfl)
      · rfl
      · (try dsimp only [zS, zN, zH, zT]); try exact rfl
      apply al_stepN
      · exact op_assign_const (by rfl)
      · rfl
      · (try dsimp only [zS, zN, zH, zT]); try exact rfl
      apply al_end
      · (try dsimp only [zS, zN, zH, zT]); try exact rfl
      refine then_normal ?_
      refine aw_ret ?_
      refine then_ret ?_
      refine retPost2 rfl rfl rfl ?_
      have e : encO v = ([], 4) := by simp [encO, hR, hL]
      exact ⟨by (rw [e]) <;> rfl, ((Ext.refl Hs).upN (NewTok.none Hs) (HS.ok_none _ 0)).1⟩
    · skip
      (try simp only [decide_eq_true_eq, decide_eq_false_iff_not, beq_iff_eq, beq_eq_false_iff_ne, Bool.not_eq_true', Bool.not_eq_false', bne_iff_ne, ne_eq, Decidable.not_not, bne_eq_false_iff_eq, List.length_map] at hc2)
      (try simp only [List.length_map] at hc2)
      have hL : ¬ 4096 < (encV v).length := by omega
      refine aw_skip ?_
      refine then_normal ?_
      refine aw_seq ?_
      refine aw_region ?_
      apply al_stepN
      · exact op_move_tmp (by rfl)
      · rfl
      · (try dsimp only [zS, zN, zH, zT]); try exact rfl
      apply al_stepN
      · exact op_string Try.underlying86 Try.underlying9 Try.underlying5 (by first | exact LL.d _ _ | exact LL.own _ _ _ | exact LL.nil _ | assumption) (by rfl)
      · rfl
      · (try dsimp only [zS, zN, zH, zT]); try exact rfl
      apply al_stepN
      · exact op_assign_tmp (by rfl)
      · rfl
      · (try dsimp only [zS, zN, zH, zT]); try exact rfl
      apply al_stepN
      · exact op_assign_const (by rfl)
      · rfl
      · (try dsimp only [zS, zN, zH, zT]); try exact rfl
      apply al_end
      · (try dsimp only [zS, zN, zH, zT]); try exact rfl
      refine then_normal ?_
      refine aw_ret ?_
      refine retPost2 rfl rfl rfl ?_
      have e : encO v = (encV v, 0) := by simp [encO, hR, hL]
      exact ⟨by (rw [e]) <;> rfl, ((Ext.refl Hs).upN (NewTok.none Hs) (HS.ok_none _ 0)).1⟩
theorem venc_at {Hs : HS} {v : V} {s : List UInt8} {e : Int} (hO : encO v = (s, e)) (hv : SmallV v) (hw : WfV v) (hB : (encV v).length ≤ 1000000000) : ACalls Try.prog 43 [.d (.agg (vC v))] Hs (Ret (.tup [.d (S s), .d (I e)]) Hs) := by
  have h := venc_ok Hs v hv hw hB
  rwa [hO] at h
theorem vdec_at {Hs : HS} {v : V} {s : List UInt8} {e : Int} (hO : decV s = (v, e)) : ACalls Try.prog 44 [.d (S s)] Hs (Ret (.tup [.d (.agg (vC v)), .d (I e)]) Hs) := by
  have h := vdec_ok Hs s
  rwa [hO] at h
theorem right_at {Hs : HS} {v : V} {b : Bool} (hR : rightV 32 v = b) (hv : SmallV v) : ACalls Try.prog 41 [.d (.agg (vC v))] Hs (Ret (.d (TF b)) Hs) := by
  have h := right_ok' Hs v hv
  rwa [hR] at h
/- The same. -/
set_option maxRecDepth 100000 in
theorem vsame_ok (Hs : HS) (v o : V) (hv : SmallV v) (ho : SmallV o) : ACalls Try.prog 53 [.d (.agg (vC v)), .d (.agg (vC o))] Hs (Ret (.d (TF (cmpV v o == 0))) Hs) := by
  refine acalls_of_aw Try.func53 rfl ?_
  refine aw_start (T' := [.d (.agg (vC v)), .d (.agg (vC o)), .un, .un, .un, .un, .un, .un, .un]) rfl ?_
  refine aw_seq ?_
  refine aw_region ?_
  apply al_stepN
  · exact op_box_elt (cs := [I v.kind, TF v.yes, .v (.int .i64 v.num), S v.text, .lst 6 (v.list.map vD), .lst 7 (v.fields.map fD)]) (by rfl) (vD_cells v)
  · rfl
  · (try dsimp only [zS, zN, zH, zT]); try exact rfl
  apply al_stepN
  · exact op_box_elt (cs := [I o.kind, TF o.yes, .v (.int .i64 o.num), S o.text, .lst 6 (o.list.map vD), .lst 7 (o.fields.map fD)]) (by rfl) (vD_cells o)
  · rfl
  · (try dsimp only [zS, zN, zH, zT]); try exact rfl
  apply al_stepN
  · exact op_assign_const (by rfl)
  · rfl
  · (try dsimp only [zS, zN, zH, zT]); try exact rfl
  apply al_end
  · (try dsimp only [zS, zN, zH, zT]); try exact rfl
  refine then_normal ?_
  refine aw_seq ?_
  refine aw_region ?_
  apply al_stepN
  · exact op_load_elts (ds := vC v) Try.underlying37 (by rfl) Sz37 (by rfl) (Nat.le_of_ble_eq_true rfl) (by rw [vC_eq]; rfl)
  · rfl
  · (try dsimp only [zS, zN, zH, zT]); try exact rfl
  apply al_stepN
  · exact op_load_elts (ds := vC o) Try.underlying37 (by rfl) Sz37 (by rfl) (Nat.le_of_ble_eq_true rfl) (by rw [vC_eq]; rfl)
  · rfl
  · (try dsimp only [zS, zN, zH, zT]); try exact rfl
  apply al_stepN
  · exact op_callF Try.func28 (by rfl) (by rfl) (.tmp (by rfl) (.tmp (by rfl) .nil)) (cmp_ok _ v o hv ho)
  · rfl
  · (try dsimp only [zS, zN, zH, zT]); try exact rfl
  apply al_stepN
  · exact op_eqI (by rfl) (by rfl)
  · rfl
  · (try dsimp only [zS, zN, zH, zT]); try exact rfl
  apply al_stepN
  · exact op_assign_tmp (by rfl)
  · rfl
  · (try dsimp only [zS, zN, zH, zT]); try exact rfl
  apply al_end
  · (try dsimp only [zS, zN, zH, zT]); try exact rfl
  refine then_normal ?_
  refine aw_ret ?_
  refine retPost1 rfl rfl ?_
  exact ⟨rfl, rfl⟩
/- Values of each kind. -/
set_option maxRecDepth 100000 in
theorem ofInt_ok (Hs : HS) (n : Int) : ACalls Try.prog 46 [.d (.v (.int .i64 n))] Hs (Ret (.d (.agg (vC (ofInt n)))) Hs) := by
  refine ACalls.tidy1 ?_
  suffices h : ACalls Try.prog 46 [.d (.v (.int .i64 n))] Hs (fun av H' => Weak av (.d (.agg (vC (ofInt n)))) ∧ Ext Hs H') from h.weak fun v H' ⟨h1, h2⟩ => ⟨_, h1, rfl, h2⟩
  refine acalls_of_awC Try.func46 rfl ?_
  refine aw_start (T' := [.d (.v (.int .i64 n)), .un, .un, .un, .un]) rfl ?_
  refine aw_seq ?_
  refine aw_region ?_
  apply al_stepN
  · exact op_alloc (Zr37) (by rfl)
  · rfl
  · (try dsimp only [zS, zN, zH, zT]); try exact rfl
  apply al_end
  · (try dsimp only [zS, zN, zH, zT]); try exact rfl
  refine then_normal ?_
  refine aw_seq ?_
  refine aw_region ?_
  apply al_stepN
  · exact op_move_tmp (by rfl)
  · rfl
  · (try dsimp only [zS, zN, zH, zT]); try exact rfl
  apply al_stepN
  · exact op_build (pl := [(0, 1), (1, 1), (2, 1), (3, 1), (4, 1), (5, 1)]) Try.underlying37 Zr37 (by kernel_rfl) (by rfl) (by rfl) (by rfl)
  · rfl
  · (try dsimp only [zS, zN, zH, zT]); try exact rfl
  apply al_stepN
  · exact op_storeB (vs := (vs6 2 false n [] nilS nilS)) (b' := (vBlk 37 2 false n [] nilS nilS)) (H' := _) Sz37 (by rfl) push_at (by intro h; cases h) (by rfl) (by rfl) (Nat.le_of_ble_eq_true rfl) (by simp [AV.one, DV.one, TF, S, I, BY]) (by rfl) (by rfl) rfl
  · rfl
  · (try dsimp only [zS, zN, zH, zT]); try exact rfl
  apply al_end
  · (try dsimp only [zS, zN, zH, zT]); try exact rfl
  refine then_normal ?_
  refine aw_ret ?_
  refine retC1 rfl (.cells Try.underlying37 (by rfl) Sz37 (by rfl) (setB_at push_at) (Nat.le_of_ble_eq_true rfl) (by rfl)) ?_
  exact ⟨Weak.aggD (weak6 weak_nilL weak_nilF) (vC_one (ofInt n)), ((Ext.refl Hs).push _ _).setB (Nat.le_refl _)⟩
set_option maxRecDepth 100000 in
theorem ofText_ok (Hs : HS) (s : List UInt8) : ACalls Try.prog 50 [.d (S s)] Hs (Ret (.d (.agg (vC (ofText s)))) Hs) := by
  refine ACalls.tidy1 ?_
  suffices h : ACalls Try.prog 50 [.d (S s)] Hs (fun av H' => Weak av (.d (.agg (vC (ofText s)))) ∧ Ext Hs H') from h.weak fun v H' ⟨h1, h2⟩ => ⟨_, h1, rfl, h2⟩
  refine acalls_of_awC Try.func50 rfl ?_
  refine aw_start (T' := [.d (S s), .un, .un, .un, .un]) rfl ?_
  refine aw_seq ?_
  refine aw_region ?_
  apply al_stepN
  · exact op_alloc (Zr37) (by rfl)
  · rfl
  · (try dsimp only [zS, zN, zH, zT]); try exact rfl
  apply al_end
  · (try dsimp only [zS, zN, zH, zT]); try exact rfl
  refine then_normal ?_
  refine aw_seq ?_
  refine aw_region ?_
  apply al_stepN
  · exact op_move_tmp (by rfl)
  · rfl
  · (try dsimp only [zS, zN, zH, zT]); try exact rfl
  apply al_stepN
  · exact op_build (pl := [(0, 1), (1, 1), (2, 1), (3, 1), (4, 1), (5, 1)]) Try.underlying37 Zr37 (by kernel_rfl) (by rfl) (by rfl) (by rfl)
  · rfl
  · (try dsimp only [zS, zN, zH, zT]); try exact rfl
  apply al_stepN
  · exact op_storeB (vs := (vs6 3 false 0 s nilS nilS)) (b' := (vBlk 37 3 false 0 s nilS nilS)) (H' := _) Sz37 (by rfl) push_at (by intro h; cases h) (by rfl) (by rfl) (Nat.le_of_ble_eq_true rfl) (by simp [AV.one, DV.one, TF, S, I, BY]) (by rfl) (by rfl) rfl
  · rfl
  · (try dsimp only [zS, zN, zH, zT]); try exact rfl
  apply al_end
  · (try dsimp only [zS, zN, zH, zT]); try exact rfl
  refine then_normal ?_
  refine aw_ret ?_
  refine retC1 rfl (.cells Try.underlying37 (by rfl) Sz37 (by rfl) (setB_at push_at) (Nat.le_of_ble_eq_true rfl) (by rfl)) ?_
  exact ⟨Weak.aggD (weak6 weak_nilL weak_nilF) (vC_one (ofText s)), ((Ext.refl Hs).push _ _).setB (Nat.le_refl _)⟩
set_option maxRecDepth 100000 in
theorem ofBool_ok (Hs : HS) (b : Bool) : ACalls Try.prog 49 [.d (TF b)] Hs (Ret (.d (.agg (vC (ofBool b)))) Hs) := by
  refine ACalls.tidy1 ?_
  suffices h : ACalls Try.prog 49 [.d (TF b)] Hs (fun av H' => Weak av (.d (.agg (vC (ofBool b)))) ∧ Ext Hs H') from h.weak fun v H' ⟨h1, h2⟩ => ⟨_, h1, rfl, h2⟩
  refine acalls_of_awC Try.func49 rfl ?_
  refine aw_start (T' := [.d (TF b), .un, .un, .un, .un]) rfl ?_
  refine aw_seq ?_
  refine aw_region ?_
  apply al_stepN
  · exact op_alloc (Zr37) (by rfl)
  · rfl
  · (try dsimp only [zS, zN, zH, zT]); try exact rfl
  apply al_end
  · (try dsimp only [zS, zN, zH, zT]); try exact rfl
  refine then_normal ?_
  refine aw_seq ?_
  refine aw_region ?_
  apply al_stepN
  · exact op_move_tmp (by rfl)
  · rfl
  · (try dsimp only [zS, zN, zH, zT]); try exact rfl
  apply al_stepN
  · exact op_build (pl := [(0, 1), (1, 1), (2, 1), (3, 1), (4, 1), (5, 1)]) Try.underlying37 Zr37 (by kernel_rfl) (by rfl) (by rfl) (by rfl)
  · rfl
  · (try dsimp only [zS, zN, zH, zT]); try exact rfl
  apply al_stepN
  · exact op_storeB (vs := (vs6 1 b 0 [] nilS nilS)) (b' := (vBlk 37 1 b 0 [] nilS nilS)) (H' := _) Sz37 (by rfl) push_at (by intro h; cases h) (by rfl) (by rfl) (Nat.le_of_ble_eq_true rfl) (by simp [AV.one, DV.one, TF, S, I, BY]) (by rfl) (by rfl) rfl
  · rfl
  · (try dsimp only [zS, zN, zH, zT]); try exact rfl
  apply al_end
  · (try dsimp only [zS, zN, zH, zT]); try exact rfl
  refine then_normal ?_
  refine aw_ret ?_
  refine retC1 rfl (.cells Try.underlying37 (by rfl) Sz37 (by rfl) (setB_at push_at) (Nat.le_of_ble_eq_true rfl) (by rfl)) ?_
  exact ⟨Weak.aggD (weak6 weak_nilL weak_nilF) (vC_one (ofBool b)), ((Ext.refl Hs).push _ _).setB (Nat.le_refl _)⟩
set_option maxRecDepth 100000 in
theorem ofList_ok (Hs : HS) (t : Option Nat) (l : List V) : ACalls Try.prog 47 [.own t 6 (l.map vD)] Hs (Ret (.d (.agg (vC (ofList l)))) Hs) := by
  refine ACalls.tidy1 ?_
  suffices h : ACalls Try.prog 47 [.own t 6 (l.map vD)] Hs (fun av H' => Weak av (.d (.agg (vC (ofList l)))) ∧ Ext Hs H') from h.weak fun v H' ⟨h1, h2⟩ => ⟨_, h1, rfl, h2⟩
  refine acalls_of_awC Try.func47 rfl ?_
  refine aw_start (T' := [.own t 6 (l.map vD), .un, .un, .un, .un]) rfl ?_
  refine aw_seq ?_
  refine aw_region ?_
  apply al_stepN
  · exact op_alloc (Zr37) (by rfl)
  · rfl
  · (try dsimp only [zS, zN, zH, zT]); try exact rfl
  apply al_end
  · (try dsimp only [zS, zN, zH, zT]); try exact rfl
  refine then_normal ?_
  refine aw_seq ?_
  refine aw_region ?_
  apply al_stepN
  · exact op_move_tmp (by rfl)
  · rfl
  · (try dsimp only [zS, zN, zH, zT]); try exact rfl
  apply al_stepN
  · exact op_build (pl := [(0, 1), (1, 1), (2, 1), (3, 1), (4, 1), (5, 1)]) Try.underlying37 Zr37 (by kernel_rfl) (by rfl) (by rfl) (by rfl)
  · rfl
  · (try dsimp only [zS, zN, zH, zT]); try exact rfl
  apply al_stepN
  · exact op_storeB (vs := (vs6 4 false 0 [] (.own t 6 (l.map vD)) nilS)) (b' := (vBlk 37 4 false 0 [] (.own t 6 (l.map vD)) nilS)) (H' := _) Sz37 (by rfl) push_at (by intro h; cases h) (by rfl) (by rfl) (Nat.le_of_ble_eq_true rfl) (by simp [AV.one, DV.one, TF, S, I, BY]) (by rfl) (by rfl) rfl
  · rfl
  · (try dsimp only [zS, zN, zH, zT]); try exact rfl
  apply al_end
  · (try dsimp only [zS, zN, zH, zT]); try exact rfl
  refine then_normal ?_
  refine aw_ret ?_
  refine retC1 rfl (.cells Try.underlying37 (by rfl) Sz37 (by rfl) (setB_at push_at) (Nat.le_of_ble_eq_true rfl) (by rfl)) ?_
  exact ⟨Weak.aggD (weak6 (Weak.lst (App.own t 6 (l.map vD))) weak_nilF) (vC_one (ofList l)), ((Ext.refl Hs).push _ _).setB (Nat.le_refl _)⟩
/- The document's example. -/
set_option maxRecDepth 100000 in
theorem vhead_ok (Hs : HS) : ACalls Try.prog 40 [] Hs (Ret (.d (TF true)) Hs) := by
  refine ACalls.tidy1 ?_
  refine acalls_of_aw Try.func40 rfl ?_
  refine aw_start (T' := [.un, .un, .un, .un, .un, .un, .un, .un, .un, .un, .un, .un, .un, .un, .un, .un, .un, .un, .un, .un, .un, .un, .un, .un, .un, .un, .un, .un, .un, .un]) rfl ?_
  refine aw_seq ?_
  refine aw_region ?_
  apply al_stepN
  · exact op_assign_const (by rfl)
  · rfl
  · (try dsimp only [zS, zN, zH, zT]); try exact rfl
  apply al_end
  · (try dsimp only [zS, zN, zH, zT]); try exact rfl
  refine then_normal ?_
  refine aw_seq ?_
  refine aw_region ?_
  apply al_stepN
  · exact op_callF Try.func46 (by rfl) (by rfl) (.const (by rfl) .nil) (ofInt_ok _ 1)
  · rfl
  · (try dsimp only [zS, zN, zH, zT]); try exact rfl
  apply al_stepN
  · exact op_callF Try.func43 (by rfl) (by rfl) (.tmp (by rfl) .nil) ((by have h := venc_ok Hs (ofInt 1) (small_int 1) (wf_int (by unfold i64; decide)) (by rw [enc_one]; decide); rw [encO_one] at h; exact h))
  · rfl
  · (try dsimp only [zS, zN, zH, zT]); try exact rfl
  apply al_stepN
  · exact op_move_tmp (by rfl)
  · rfl
  · (try dsimp only [zS, zN, zH, zT]); try exact rfl
  apply al_stepN
  · exact op_extract (by rfl) (by rfl)
  · rfl
  · (try dsimp only [zS, zN, zH, zT]); try exact rfl
  apply al_stepN
  · exact op_extract (by rfl) (by rfl)
  · rfl
  · (try dsimp only [zS, zN, zH, zT]); try exact rfl
  apply al_stepN
  · exact op_assign_tmp (by rfl)
  · rfl
  · (try dsimp only [zS, zN, zH, zT]); try exact rfl
  apply al_stepN
  · exact op_assign_tmp (by rfl)
  · rfl
  · (try dsimp only [zS, zN, zH, zT]); try exact rfl
  apply al_end
  · (try dsimp only [zS, zN, zH, zT]); try exact rfl
  refine then_normal ?_
  refine aw_seq ?_
  refine aw_region ?_
  apply al_stepN
  · exact op_move_tmp (by rfl)
  · rfl
  · (try dsimp only [zS, zN, zH, zT]); try exact rfl
  apply al_stepN
  · exact op_callF Try.func44 (by rfl) (by rfl) (.tmp (by rfl) .nil) ((by have h := vdec_ok Hs [2, 0, 1, 2]; rw [decV_one] at h; exact h))
  · rfl
  · (try dsimp only [zS, zN, zH, zT]); try exact rfl
  apply al_stepN
  · exact op_move_tmp (by rfl)
  · rfl
  · (try dsimp only [zS, zN, zH, zT]); try exact rfl
  apply al_stepN
  · exact op_extract (by rfl) (by rfl)
  · rfl
  · (try dsimp only [zS, zN, zH, zT]); try exact rfl
  apply al_stepN
  · exact op_extract (by rfl) (by rfl)
  · rfl
  · (try dsimp only [zS, zN, zH, zT]); try exact rfl
  apply al_stepN
  · exact op_alloc (Zr37) (by rfl)
  · rfl
  · (try dsimp only [zS, zN, zH, zT]); try exact rfl
  apply al_stepN
  · exact op_storeV (b' := ⟨37, (vC (ofInt 1)).map .d, false⟩) (ofInt 1) Sz37 (by rfl) push_at (by rfl) (Nat.le_of_ble_eq_true rfl) (by rfl) (by rw [vC_eq]; rfl)
  · rfl
  · (try dsimp only [zS, zN, zH, zT]); try exact rfl
  apply al_stepN
  · exact op_assign_tmp (by rfl)
  · rfl
  · (try dsimp only [zS, zN, zH, zT]); try exact rfl
  apply al_end
  · (try dsimp only [zS, zN, zH, zT]); try exact rfl
  refine then_normal ?_
  refine aw_seq ?_
  refine aw_draw [0, 0, 0, 0, 0, 0, 0, 0, 0, 0, 0, 1, 0, 0, 0, 0] mixed (by kernel_rfl) ?_
  apply drun0
  · intro H; exact op_move_tmp (by rfl)
  · rfl
  apply drun_normT
  · (try dsimp only [zS, zN, zH, zT]); try exact rfl
  apply drun0
  · intro H; exact op_eqI (by rfl) (by rfl)
  · rfl
  apply drun_normT
  · (try dsimp only [zS, zN, zH, zT]); try exact rfl
  apply drun0
  · intro H; exact op_move_tmp (by rfl)
  · rfl
  apply drun_normT
  · (try dsimp only [zS, zN, zH, zT]); try exact rfl
  apply drun0w
  · rfl
  · rfl
  · rfl
  · intro H; exact op_move_tmp (by rfl)
  apply drun_normT
  · (try dsimp only [zS, zN, zH, zT]); try exact rfl
  apply drun0w
  · rfl
  · rfl
  · rfl
  · intro H; exact op_eqS (by rfl) (by rfl)
  apply drun_normT
  · (try dsimp only [zS, zN, zH, zT]); try exact rfl
  apply drun0
  · intro H; exact op_pick_tt (by rfl) (val_tmp (by rfl))
  · rfl
  apply drun_normT
  · (try dsimp only [zS, zN, zH, zT]); try exact rfl
  apply drun0
  · intro H; exact op_move_tmp (by rfl)
  · rfl
  apply drun_normT
  · (try dsimp only [zS, zN, zH, zT]); try exact rfl
  apply drun0w
  · rfl
  · rfl
  · rfl
  · intro H; exact op_move_tmp (by rfl)
  apply drun_normT
  · (try dsimp only [zS, zN, zH, zT]); try exact rfl
  apply drun0w
  · rfl
  · rfl
  · rfl
  · intro H; exact op_eqI (by rfl) (by rfl)
  apply drun_normT
  · (try dsimp only [zS, zN, zH, zT]); try exact rfl
  apply drun0
  · intro H; exact op_pick_tt (by rfl) (val_tmp (by rfl))
  · rfl
  apply drun_normT
  · (try dsimp only [zS, zN, zH, zT]); try exact rfl
  apply drun0
  · intro H; exact op_move_tmp (by rfl)
  · rfl
  apply drun_normT
  · (try dsimp only [zS, zN, zH, zT]); try exact rfl
  apply drun1w
  · rfl
  · rfl
  · rfl
  · exact op_load_ptrsD (vC (ofInt 1)) Try.underlying37 (by rfl) Sz37 (by rfl) (setB_at push_at) (by show 0 + 6 ≤ ((vC (ofInt 1)).map AV.d).length; rw [List.length_map, vC_len]; exact Nat.le_refl _) (by show (((vC (ofInt 1)).map AV.d).drop 0).take 6 = _; rw [List.drop_zero, List.take_of_length_le (by rw [List.length_map, vC_len]; exact Nat.le_refl _)]) (vC_one (ofInt 1))
  apply drun_normT
  · (try dsimp only [zS, zN, zH, zT]); try exact rfl
  apply drun0w
  · rfl
  · rfl
  · rfl
  · intro H; exact op_callF Try.func46 (by rfl) (by rfl) (.const (by rfl) .nil) (ofInt_ok _ 1)
  apply drun_normT
  · (try dsimp only [zS, zN, zH, zT]); try exact rfl
  apply drun0w
  · rfl
  · rfl
  · rfl
  · intro H; exact op_callF Try.func53 (by rfl) (by rfl) (.tmp (by rfl) (.tmp (by rfl) .nil)) ((by have h := vsame_ok H (ofInt 1) (ofInt 1) (small_int 1) (small_int 1); rw [cmp_int] at h; exact h))
  apply drun_normT
  · (try dsimp only [zS, zN, zH, zT]); try exact rfl
  apply drun0
  · intro H; exact op_pick_tt (by rfl) (val_tmp (by rfl))
  · rfl
  apply drun_normT
  · (try dsimp only [zS, zN, zH, zT]); try exact rfl
  apply drun0
  · intro H; exact op_assign_tmp (by rfl)
  · rfl
  apply drun_normT
  · (try dsimp only [zS, zN, zH, zT]); try exact rfl
  apply drun_end
  · (try dsimp only [zS, zN, zH, zT]); try exact rfl
  refine then_normal ?_
  refine aw_ret ?_
  refine retPost1 rfl rfl ?_
  exact ⟨rfl, ((Ext.refl Hs).push _ _).setB (Nat.le_refl _)⟩
end Go.Proofs.Ytadkehaagkjbhaa
