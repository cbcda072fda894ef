/- What is called from without: kinds, what is right, the same. -/
import Derived.Test.YtjamnhofbkgblaaValRJ
import Derived.Test.YtjamnhofbkgblaaValC
import Derived.KernelRfl
namespace Go.Proofs.Ytjamnhofbkgblaa
open Go.AV Go.AV.Ord Go.AV.Oct Go.AV.Val
set_option linter.unusedVariables false
set_option linter.unusedSimpArgs false
/- Right. -/
set_option maxRecDepth 100000 in
theorem right_ok' (Hs : HS) (v : V) (hv : SmallV v) : ACalls Try.prog 22 [.d (.agg (vC v))] Hs (Ret (.d (TF (rightV 32 v))) Hs) := by
 refine acalls_of_aw Try.func22 rfl ?_
 refine aw_start (T' := [.d (.agg (vC v)), .un, .un, .un, .un]) rfl ?_
 refine aw_seq ?_
 refine aw_region ?_
 refine zst (op_box_elt (cs := [I v.kind, TF v.yes, .v (.int .i64 v.num), S v.text, .lst 6 (v.list.map vD), .lst 7 (v.fields.map fD)]) (by rfl) (vD_cells v)) rfl (by dsimp only [zS, zN, zH, zT]) ?_
 refine zst (op_assign_const (by rfl)) rfl (by dsimp only [zS, zN, zH, zT]) ?_
 refine al_end rfl ?_
 refine then_normal ?_
 refine aw_seq ?_
 refine aw_region ?_
 refine zst (op_load_elts (ds := vC v) Try.underlying26 (by rfl) Sz26 (by rfl) (Nat.le_of_ble_eq_true rfl) (by rw [vC_eq]; rfl)) rfl (by dsimp only [zS, zN, zH, zT]) ?_
 refine zst (op_callF Try.func34 (by rfl) (by rfl) (.tmp (by rfl) (.const (by rfl) .nil)) (right_all 32 v (by decide) hv _)) rfl (by dsimp only [zS, zN, zH, zT]) ?_
 refine zst (op_assign_tmp (by rfl)) rfl (by dsimp only [zS, zN, zH, zT]) ?_
 refine al_end rfl ?_
 refine then_normal ?_
 refine aw_ret ?_
 refine retPost1 rfl rfl ?_
 exact ⟨rfl, rfl⟩
theorem right_at {Hs : HS} {v : V} {b : Bool} (hR : rightV 32 v = b) (hv : SmallV v) : ACalls Try.prog 22 [.d (.agg (vC v))] Hs (Ret (.d (TF b)) Hs) := by
  have h := right_ok' Hs v hv
  rwa [hR] at h
/- The same. -/
set_option maxRecDepth 100000 in
theorem vsame_ok (Hs : HS) (v o : V) (hv : SmallV v) (ho : SmallV o) : ACalls Try.prog 15 [.d (.agg (vC v)), .d (.agg (vC o))] Hs (Ret (.d (TF (cmpV v o == 0))) Hs) := by
 refine acalls_of_aw Try.func15 rfl ?_
 refine aw_start (T' := [.d (.agg (vC v)), .d (.agg (vC o)), .un, .un, .un, .un, .un, .un, .un]) rfl ?_
 refine aw_seq ?_
 refine aw_region ?_
 refine zst (op_box_elt (cs := [I v.kind, TF v.yes, .v (.int .i64 v.num), S v.text, .lst 6 (v.list.map vD), .lst 7 (v.fields.map fD)]) (by rfl) (vD_cells v)) rfl (by dsimp only [zS, zN, zH, zT]) ?_
 refine zst (op_box_elt (cs := [I o.kind, TF o.yes, .v (.int .i64 o.num), S o.text, .lst 6 (o.list.map vD), .lst 7 (o.fields.map fD)]) (by rfl) (vD_cells o)) rfl (by dsimp only [zS, zN, zH, zT]) ?_
 refine zst (op_assign_const (by rfl)) rfl (by dsimp only [zS, zN, zH, zT]) ?_
 refine al_end rfl ?_
 refine then_normal ?_
 refine aw_seq ?_
 refine aw_region ?_
 refine zst (op_load_elts (ds := vC v) Try.underlying26 (by rfl) Sz26 (by rfl) (Nat.le_of_ble_eq_true rfl) (by rw [vC_eq]; rfl)) rfl (by dsimp only [zS, zN, zH, zT]) ?_
 refine zst (op_load_elts (ds := vC o) Try.underlying26 (by rfl) Sz26 (by rfl) (Nat.le_of_ble_eq_true rfl) (by rw [vC_eq]; rfl)) rfl (by dsimp only [zS, zN, zH, zT]) ?_
 refine zst (op_callF Try.func28 (by rfl) (by rfl) (.tmp (by rfl) (.tmp (by rfl) .nil)) (cmp_ok _ v o hv ho)) rfl (by dsimp only [zS, zN, zH, zT]) ?_
 refine zst (op_eqI (by rfl) (by rfl)) rfl (by dsimp only [zS, zN, zH, zT]) ?_
 refine zst (op_assign_tmp (by rfl)) rfl (by dsimp only [zS, zN, zH, zT]) ?_
 refine al_end rfl ?_
 refine then_normal ?_
 refine aw_ret ?_
 refine retPost1 rfl rfl ?_
 exact ⟨rfl, rfl⟩
/- Values of a kind. -/
set_option maxRecDepth 100000 in
theorem ofInt_ok (Hs : HS) (n : Int) : ACalls Try.prog 14 [.d (.v (.int .i64 n))] Hs (Ret (.d (.agg (vC (ofInt n)))) Hs) := by
 refine ACalls.tidy1 ?_
 suffices h : ACalls Try.prog 14 [.d (.v (.int .i64 n))] Hs (fun av H' => Weak av (.d (.agg (vC (ofInt n)))) ∧ Ext Hs H') from h.weak fun v H' ⟨h1, h2⟩ => ⟨_, h1, rfl, h2⟩
 refine acalls_of_awC Try.func14 rfl ?_
 refine aw_start (T' := [.d (.v (.int .i64 n)), .un, .un, .un, .un]) rfl ?_
 refine aw_seq ?_
 refine aw_region ?_
 refine zst (op_alloc (Zr26) (by rfl)) rfl (by dsimp only [zS, zN, zH, zT]) ?_
 refine al_end rfl ?_
 refine then_normal ?_
 refine aw_seq ?_
 refine aw_region ?_
 refine zst (op_move_tmp (by rfl)) rfl (by dsimp only [zS, zN, zH, zT]) ?_
 refine zst (op_build (pl := [(0, 1), (1, 1), (2, 1), (3, 1), (4, 1), (5, 1)]) Try.underlying26 Zr26 (by kernel_rfl) (by rfl) (by rfl) (by rfl)) rfl (by dsimp only [zS, zN, zH, zT]) ?_
 refine zst (op_storeB (vs := (vs6 2 false n [] nilS nilS)) (b' := (vBlk 26 2 false n [] nilS nilS)) (H' := _) Sz26 (by rfl) push_at (by intro h; cases h) (by rfl) (by rfl) (Nat.le_of_ble_eq_true rfl) (by simp [AV.one, DV.one, TF, S, I, BY]) (by rfl) (by rfl) rfl) rfl (by dsimp only [zS, zN, zH, zT]) ?_
 refine al_end rfl ?_
 refine then_normal ?_
 refine aw_ret ?_
 refine retC1 rfl (.cells Try.underlying26 (by rfl) Sz26 (by rfl) (setB_at push_at) (Nat.le_of_ble_eq_true rfl) (by rfl)) ?_
 exact ⟨Weak.aggD (weak6 weak_nilL weak_nilF) (vC_one (ofInt n)), ((Ext.refl Hs).push _ _).setB (Nat.le_refl _)⟩
end Go.Proofs.Ytjamnhofbkgblaa
